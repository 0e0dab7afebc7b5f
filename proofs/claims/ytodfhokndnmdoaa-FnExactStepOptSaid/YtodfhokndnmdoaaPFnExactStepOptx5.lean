-- Printed out of the translation by this session's own turned copy of a printer; Lean checks it.
import Derived.Test.YtodfhokndnmdoaaPFnExactStepOptx0
namespace Go.Proofs.Ytodfhokndnmdoaa.PFnExactStepOpt
open Go.RowKit Go.Proofs.YtodfhokndnmdoaaW.PrintWords Go.Proofs.YtodfhokndnmdoaaW.PrintLast Go.Proofs.YtodfhokndnmdoaaW.PrintMore
attribute [local go_sem] max2_int min2_int max_two min_two max_three min_three max_four min_four
set_option linter.unusedVariables false
set_option linter.unusedSimpArgs false
set_option maxHeartbeats 8000000
set_option maxRecDepth 100000
def laws_toSched.f (a : Int) (l : Int) (q : Int) (u : Int) : Option (Int × Int × Int × Int) := some (a, l, q, u)
theorem laws_toSched.calls (q) (u) (x) (y) (r1) (r2) (r3) (r4) (w) (h : laws_toSched.f q u x y = some (r1, r2, r3, r4)) :
 Calls Try.prog 42 #[.agg #[.int .i64 q, .int .i64 u, .int .i64 x, .int .i64 y]] w fun e w' => e = .returned (.agg #[.int .i64 r1, .int .i64 r2, .int .i64 r3, .int .i64 r4]) ∧ Below w.heap.size w w' := by
 have X0 := Try.underlying23
 have a1 := Try.underlying33
 have HB := zK (Below.refl w.heap.size w)
 have H : (some (q, u, x, y)) = some (r1, r2, r3, r4) := h
 clear h
 simp only [Option.some.injEq, Prod.mk.injEq] at H
 obtain ⟨rfl, rfl, rfl, rfl⟩ := H
 go_enter Try.func42, Try.ntmps42
 go_wp2_with (first | ((with_reducible refine gd 1 rfl ?_); refine zJ 1 #[.int .i64 q, .int .i64 u, .int .i64 x, .int .i64 y] 23 ?_; intro M0 hg w2 hbox hb; have z := z8 hb; have A := zK (hbox); have B := z9 hg; have D := z9 hg; revert z A B D; clear HB; intro HB a N0 O0; clear hb hbox hg) | ((with_reducible refine gd 2 rfl ?_); refine zJ 2 #[.int .i64 0, .int .i64 0, .int .i64 0, .int .i64 0] 33 ?_; intro a0 hg w3 hbox hb; have z := z7 a hb; have A := z8 hb; have B := zK (hbox); have D := z9 hg; have T := z9 hg; have U := zHH hg a; have X := zGG hg a; revert z A B D T U X; clear a HB; intro a HB l R0 S0 E I; clear hb hbox hg) | ((with_reducible refine gd 3 rfl ?_); refine zJ 3 #[.int .i64 0, .int .i64 0, .int .i64 0, .int .i64 0] 33 ?_; intro T0 hg w4 hbox hb; have z := z7 a hb; have A := z7 l hb; have B := z8 hb; have D := zK (hbox); have T := z9 hg; have U := z9 hg; have X := zHH hg a; have m0 := zGG hg a; have n0 := zHH hg l; have o0 := zGG hg l; revert z A B D T U X m0 n0 o0; clear a l HB; intro a l HB b0 U0 V0 J L M O; clear hb hbox hg; have b1 := E.out; have c1 := I.out; have d1 := J.out; have e1 := L.out; obtain ⟨p0, q0, s0, t0, x0, y0, A0, B0⟩ := zc4 a; have f1 := O.out; have g1 := M.out; obtain ⟨C0, D0, E0, F0, G0, I0, J0, L0⟩ := zc4 b0; obtain ⟨c0, d0, e0, f0, g0, i0, j0, l0⟩ := zc4 l))
 refine bodyPost_ret (results_cell_row rfl _ _ a0 33 #[.int .i64 q, .int .i64 u, .int .i64 x, .int .i64 y] (0, 0) _ rfl (zW l) Try.underlying33 rfl (by kernel_rfl)) rfl ?_
 exact ⟨zE, zB⟩
def laws_toRule.f (q : Int) (u : Int) (x : Int) (y : Int) (z : Int) (A : Int) (B : Int) (D : Int) (E : Int) (I : Int) (l : Int) : Option (Int × Int × Int × Int × Int × Int × Int × Int × Int × Int × Int) := (laws_toSched.f u x y z).bind fun a => (some (q, a.1, a.2.1, a.2.2.1, a.2.2.2, A, B, D, E, I, l))
theorem laws_toRule.calls (u) (y) (z) (A) (B) (D) (E) (I) (J) (L) (q) (r1) (r2) (r3) (r4) (r5) (r6) (r7) (r8) (r9) (r10) (r11) (w) (h : laws_toRule.f u y z A B D E I J L q = some (r1, r2, r3, r4, r5, r6, r7, r8, r9, r10, r11)) :
 Calls Try.prog 9 #[.agg #[.int .i64 u, .int .i64 y, .int .i64 z, .int .i64 A, .int .i64 B, .int .i64 D, .int .i64 E, .int .i64 I, .int .i64 J, .int .i64 L, .int .i64 q]] w fun e w' => e = .returned (.agg #[.int .i64 r1, .int .i64 r2, .int .i64 r3, .int .i64 r4, .int .i64 r5, .int .i64 r6, .int .i64 r7, .int .i64 r8, .int .i64 r9, .int .i64 r10, .int .i64 r11]) ∧ Below w.heap.size w w' := by
 have F3 := Try.underlying25
 have G3 := Try.underlying35
 have I3 := Try.underlying23
 have J3 := Try.underlying33
 have HB := zK (Below.refl w.heap.size w)
 have H : ((laws_toSched.f y z A B).bind fun M => (some (u, M.1, M.2.1, M.2.2.1, M.2.2.2, D, E, I, J, L, q))) = some (r1, r2, r3, r4, r5, r6, r7, r8, r9, r10, r11) := h
 clear h
 replace H := z6 H
 obtain ⟨⟨g0, i0, j0, l0⟩, s0, H⟩ := H
 replace H : (some (u, g0, i0, j0, l0, D, E, I, J, L, q)) = some (r1, r2, r3, r4, r5, r6, r7, r8, r9, r10, r11) := H
 have A2 := zK s0
 clear s0
 simp only [Option.some.injEq, Prod.mk.injEq] at H
 obtain ⟨rfl, rfl, rfl, rfl, rfl, rfl, rfl, rfl, rfl, rfl, rfl⟩ := H
 go_enter Try.func9, Try.ntmps9
 go_wp2_with (first | ((with_reducible refine gd 1 rfl ?_); refine zJ 1 #[.int .i64 u, .int .i64 y, .int .i64 z, .int .i64 A, .int .i64 B, .int .i64 D, .int .i64 E, .int .i64 I, .int .i64 J, .int .i64 L, .int .i64 q] 25 ?_; intro x3 hg w3 hbox hb; have O := z8 hb; have T := zK (hbox); have U := z9 hg; have X := z9 hg; revert O T U X; clear HB; intro HB a y3 A3; clear hb hbox hg) | ((with_reducible refine gd 2 rfl ?_); refine zJ 2 #[.int .i64 0, .int .i64 0, .int .i64 0, .int .i64 0, .int .i64 0, .int .i64 0, .int .i64 0, .int .i64 0, .int .i64 0, .int .i64 0, .int .i64 0] 35 ?_; intro p0 hg w4 hbox hb; have O := z7 a hb; have T := z8 hb; have U := zK (hbox); have X := z9 hg; have m0 := z9 hg; have n0 := zHH hg a; have o0 := zGG hg a; revert O T U X m0 n0 o0; clear a HB; intro a HB l B3 C3 a0 b0; clear hb hbox hg) | ((with_reducible refine gd 3 rfl ?_); refine zJ 3 #[.int .i64 0, .int .i64 0, .int .i64 0, .int .i64 0, .int .i64 0, .int .i64 0, .int .i64 0, .int .i64 0, .int .i64 0, .int .i64 0, .int .i64 0] 35 ?_; intro q0 hg w5 hbox hb; have O := z7 a hb; have T := z7 l hb; have U := z8 hb; have X := zK (hbox); have m0 := z9 hg; have n0 := z9 hg; have o0 := zHH hg a; have O2 := zGG hg a; have R2 := zHH hg l; have T2 := zGG hg l; revert O T U X m0 n0 o0 O2 R2 T2; clear a l HB; intro a l HB x D3 E3 c0 d0 e0 f0; clear hb hbox hg; have M3 := a0.out; have N3 := b0.out; have O3 := c0.out; have R3 := d0.out; obtain ⟨U2, V2, X2, a3, b3, c3, d3, e3, f3, g3, F0, i3, j3, l3, m3, n3, o3, p3, q3, s3, t3, G0⟩ := zc11 a; have S3 := f0.out; have T3 := e0.out; obtain ⟨I0, J0, L0, M0, N0, O0, R0, S0, T0, U0, t0, V0, X0, a1, b1, c1, d1, e1, f1, g1, i1, x0⟩ := zc11 x) | ((with_reducible refine gc 42 rfl ?_); refine zF 9 Try.func42 #[.agg #[.int .i64 y, .int .i64 z, .int .i64 A, .int .i64 B]] rfl zL ?_; (with_reducible refine (laws_toSched.calls y z A B g0 i0 j0 l0 _ A2.out).mono ?_); rintro e U3 ⟨rfl, hb⟩; refine ⟨_, rfl, ?_⟩; have O := zK (zg (zV a) hb); have T := zK (zg (zV l) hb); have U := zK (zg (g := q0) (o := .cells #[.int .i64 u, .int .i64 0, .int .i64 0, .int .i64 0, .int .i64 0, .int .i64 0, .int .i64 0, .int .i64 0, .int .i64 0, .int .i64 0, .int .i64 0] 35 (0, 0)) (zW x) hb); have X := z8 hb; revert O T U X; clear a l x HB; intro a l x HB; obtain ⟨j1, l1, m1, n1, o1, p1, q1, s1, t1, x1, y0, y1, A1, B1, C1, D1, E1, F1, G1, I1, J1, A0⟩ := zc11 x; obtain ⟨L1, M1, N1, O1, R1, S1, T1, U1, V1, X1, B0, a2, b2, c2, d2, e2, f2, g2, i2, j2, l2, C0⟩ := zc11 a; obtain ⟨m2, n2, o2, p2, q2, s2, t2, x2, y2, B2, D0, C2, D2, E2, F2, G2, I2, J2, L2, M2, N2, E0⟩ := zc11 l))
 refine bodyPost_ret (results_cell_row rfl _ _ p0 35 #[.int .i64 u, .int .i64 g0, .int .i64 i0, .int .i64 j0, .int .i64 l0, .int .i64 D, .int .i64 E, .int .i64 I, .int .i64 J, .int .i64 L, .int .i64 q] (0, 0) _ rfl (zW l) Try.underlying35 rfl (by kernel_rfl)) rfl ?_
 exact ⟨zE, zB⟩
def laws_toIntS.l0 : Nat → List Int → List Int → Int → Option (List Int)
 | 0, _, _, _ => none
 | k + 1, l, q, a => if a < (l.length : Int) then (if 0 ≤ a then (if a < (q.length : Int) then (laws_toIntS.l0 k l (q.set (a : Int).toNat (rd l a)) (wrap64 (a + 1))) else (none)) else (none)) else (some q)
def laws_toIntS.f (k : Nat) (a : List Int) : Option (List Int) := if 0 ≤ (a.length : Int) then (if ((a.length : Int) : Int).toNat ≤ 35184372088832 then (laws_toIntS.l0 k a (List.replicate ((a.length : Int) : Int).toNat 0) 0) else (none)) else (none)
theorem laws_toIntS.calls (k) (A0) (c0) (l : List Int) (r : List Int) (w) (e0 : Kd.C (Kd.int .i64) w A0 l.length l) (f0 : l.length ≤ c0) (h : laws_toIntS.f k l = some r) :
 Calls Try.prog 11 #[.slice A0 l.length c0] w fun e w' => ∃ v0_ : Value, e = .returned (v0_) ∧ Kd.R (Kd.int .i64) 3 w' w.heap.size (fun _ => True) v0_ r ∧ Below w.heap.size w w' := by
 have C0 := zK e0
 have J0 := zK f0
 clear e0 f0
 have HB := zK (Below.refl w.heap.size w)
 have H : (if 0 ≤ (l.length : Int) then (if ((l.length : Int) : Int).toNat ≤ 35184372088832 then (laws_toIntS.l0 k l (List.replicate ((l.length : Int) : Int).toNat 0) 0) else (none)) else (none)) = some r := h
 clear h
 by_cases J : 0 ≤ (l.length : Int)
 rotate_left
 · rw [if_neg J] at H
   exact absurd H (by simp)
 rw [if_pos J] at H
 have m0 := eq_true J
 have n0 := z1 J
 clear J
 by_cases L : ((l.length : Int) : Int).toNat ≤ 35184372088832
 rotate_left
 · rw [if_neg L] at H
   exact absurd H (by simp)
 rw [if_pos L] at H
 have o0 := eq_true L
 have p0 := z1 L
 clear L
 obtain ⟨O, x⟩ : ∃ y_ : List Int, y_ = (List.replicate ((l.length : Int) : Int).toNat 0) := ⟨_, rfl⟩
 replace H : (laws_toIntS.l0 k l O 0) = some r := by first | (rw [x]; with_reducible exact H) | (have z := (Option.bind_some _ _).symm.trans H; rw [x]; with_reducible exact z) | (have z := (Option.bind_some _ _).symm.trans H; with_reducible exact z) | with_reducible exact H | (rw [x]; exact H) | exact H
 have Ny227 := zK x
 clear x
 have H' := zK H
 clear H
 go_enter Try.func11, Try.ntmps11
 go_wp2_with (first | ((with_reducible refine gd 7 rfl ?_); refine Kd.R_make (Kd.int .i64) _ 3 rfl (N := 7) rfl 26 _ _ rfl (l.length : Int) rfl rfl Try.underlying26 (.int .i64 0) 8 info3 rfl (by decide) (by omega) 0 (ok := fun _ => True) (okp := fun _ => True) rfl (fun _ hk => hk) trivial (z3) (Nat.le_trans (Nat.mul_le_mul_right _ (z3 : (l.length : Int).toNat ≤ 35184372088832)) (by omega)) (Below.refl _ _) (Nat.le_refl _) ?_; intro v228 w4 B hb hg_ hnew_; clear hg_ hnew_; (first | rw [← Ny227.out] at B | (simp only [Int.reduceToNat] at B; rw [← Ny227.out] at B)); have T := zK (Kd.R_lower B (zz zB)); have U := z8 hb; revert T U; clear HB; intro a0 HB; clear hb B))
 go_loopg [4] k (fun kq v4 w' => ∃ (q : List Int) (a : Int), v4 = .int .i64 a ∧ Aside0 (laws_toIntS.l0 kq l q a = some r) ∧ Aside0 (kq ≤ k) ∧ Aside0 (Kd.R (Kd.int .i64) 3 w' w.heap.size (fun _ => True) v228 q) ∧ Aside0 (Below w.heap.size w w'))
 case atStart => exact ⟨(O), (0), zR, H', ⟨Nat.le_refl _⟩, ⟨zkR a0⟩, ⟨zB⟩⟩
 clear H'
 try clear c1
 try clear J
 try clear m0
 try clear n0
 try clear p2
 try clear L
 try clear o0
 try clear p0
 obtain ⟨q, a, rfl, HA, g0, u, HB⟩ := hrel
 rcases gk with _ | k1
 · exact absurd HA.out (by simp [laws_toIntS.l0])
 have H := HA.out
 clear HA
 simp only [laws_toIntS.l0] at H
 by_cases M : a < (l.length : Int)
 rotate_left
 · rw [if_neg M] at H
   have q0 := z2 M
   clear M
   obtain rfl := z5 H
   go_wp2
   go_ret
   exact ⟨_, zE, zkR u, zB⟩
 rw [if_pos M] at H
 have q0 := z1 M
 clear M
 by_cases c7 : 0 ≤ a
 rotate_left
 · rw [if_neg c7] at H
   exact absurd H (by simp)
 rw [if_pos c7] at H
 have G0 := z1 c7
 clear c7
 by_cases c8 : a < (q.length : Int)
 rotate_left
 · rw [if_neg c8] at H
   exact absurd H (by simp)
 rw [if_pos c8] at H
 have I0 := z1 c8
 clear c8
 obtain ⟨D, y⟩ : ∃ y_ : List Int, y_ = (q.set (a : Int).toNat (rd l a)) := ⟨_, rfl⟩
 replace H : (laws_toIntS.l0 k1 l D (wrap64 (a + 1))) = some r := by first | (rw [y]; with_reducible exact H) | (have z := (Option.bind_some _ _).symm.trans H; rw [y]; with_reducible exact z) | (have z := (Option.bind_some _ _).symm.trans H; with_reducible exact z) | with_reducible exact H | (rw [y]; exact H) | exact H
 have Ny231 := zK y
 clear y
 have H' := zK H
 clear H
 have E : 0 ≤ (a : Int) := z3
 have I : a < (l.length : Int) := z3
 obtain ⟨E0, s0, A⟩ := Kd.at_int C0.out a E I
 cases s0
 (try replace A := zX HB A)
 replace E := eq_true E
 replace I := eq_true I
 have p9 : 0 ≤ (a : Int) := z3
 have q9 : (a : Int) < ((q.length : Int) : Int) := z3
 obtain ⟨go9, D0, i0, j0, gl9, cl9, HG9⟩ := Kd.R_form u.out (by omega)
 (first | cases i0 | (injection i0 with ea_ en_ ec_; (first | subst ea_ | (injection ea_ with ea_; subst ea_)); subst ec_; clear en_))
 have GB9 := zK j0
 have GG9 := zK HG9
 clear j0 gl9 HG9
 obtain ⟨F0, hf9_0⟩ := Kd.R_celln 0 u.out (a : Int) p9 q9
 replace p9 := eq_true p9
 replace q9 := eq_true q9
 have HP10 := Kd.R_putg u.out (a : Int) (rd l a)
 go_wp2_with (first | ((with_reducible refine gate_store (t := 3) (p := 20) rfl ?_); refine store_event (t := 3) (p := 20) (v := ?vo_w11) (w1 := (wr.setCell ⟨go9, (a : Int).toNat, none⟩ (.int .i64 (rd l a)))) ?hg ?ho ?hn ?hr ?_; (case ho => rfl); (case hg => rfl); (case hn => rfl); (case hr => first | (go_simp; done) | (go_simp; rfl)); intro X hw; have hg : wr.grownBy X (some go9) := (by rw [hw]; exact HP10.2); have hp_ : Kd.R (Kd.int .i64) 3 X w.heap.size (fun _ => True) (.slice (some ⟨go9, 0, none⟩) q.length D0) D := (by rw [hw, Ny231.out]; exact HP10.1); clear HP10; have T := zK (hp_); have U := zK ((by rw [hw]; exact zs (HB.out) GB9.out : Below w.heap.size w X)); revert T U; clear u HB; intro u HB; clear hg hw hp_))
 go_roundg k1
 case measure => have := g0.out; omega
 case rel => exact ⟨(D), (wrap64 (a + 1)), zR, H', ⟨by have := g0.out; omega⟩, ⟨zkR u⟩, ⟨zB⟩⟩
def laws_toOpt.f (k : Nat) (a : List Int) (l : List Int) (q : List Int) (u : Int) (x : Int) (y : Int) : Option (List Int × List Int × List Int × Int × Int × Int) := (laws_toIntS.f k a).bind fun z => ((laws_toIntS.f k l).bind fun A => ((laws_toIntS.f k q).bind fun B => (some (z, A, B, u, x, y))))
theorem laws_toOpt.calls (k) (b0) (c0) (x : List Int) (d0) (e0) (y : List Int) (f0) (g0) (z : List Int) (O) (T) (U) (r1 : List Int) (r2 : List Int) (r3 : List Int) (r4) (r5) (r6) (w) (x0 : Kd.C (Kd.int .i64) w b0 x.length x) (y0 : x.length ≤ c0) (A0 : Kd.C (Kd.int .i64) w d0 y.length y) (B0 : y.length ≤ e0) (C0 : Kd.C (Kd.int .i64) w f0 z.length z) (D0 : z.length ≤ g0) (h : laws_toOpt.f k x y z O T U = some (r1, r2, r3, r4, r5, r6)) :
 Calls Try.prog 10 #[.agg #[.slice b0 x.length c0, .slice d0 y.length e0, .slice f0 z.length g0, .int .i64 O, .int .i64 T, .int .i64 U]] w fun e w' => ∃ v0_ v1_ v2_ : Value, e = .returned (.agg #[v0_, v1_, v2_, .int .i64 r4, .int .i64 r5, .int .i64 r6]) ∧ Kd.R (Kd.int .i64) 3 w' w.heap.size (fun k_ => some k_ ≠ (v1_ : Value).ownBlock ∧ some k_ ≠ (v2_ : Value).ownBlock) v0_ r1 ∧ Kd.R (Kd.int .i64) 3 w' w.heap.size (fun k_ => some k_ ≠ (v0_ : Value).ownBlock ∧ some k_ ≠ (v2_ : Value).ownBlock) v1_ r2 ∧ Kd.R (Kd.int .i64) 3 w' w.heap.size (fun k_ => some k_ ≠ (v0_ : Value).ownBlock ∧ some k_ ≠ (v1_ : Value).ownBlock) v2_ r3 ∧ Below w.heap.size w w' := by
 have b4 := Try.underlying28
 have c4 := Try.underlying30
 have J0 := zK x0
 have L0 := zK y0
 clear x0 y0
 have M0 := zK A0
 have N0 := zK B0
 clear A0 B0
 have O0 := zK C0
 have R0 := zK D0
 clear C0 D0
 have HB := zK (Below.refl w.heap.size w)
 have H : ((laws_toIntS.f k x).bind fun L => ((laws_toIntS.f k y).bind fun X => ((laws_toIntS.f k z).bind fun i0 => (some (L, X, i0, O, T, U))))) = some (r1, r2, r3, r4, r5, r6) := h
 clear h
 replace H := z6 H
 obtain ⟨L, T0, H⟩ := H
 have A2 := zK T0
 clear T0
 replace H := z6 H
 obtain ⟨X, U0, H⟩ := H
 have A3 := zK U0
 clear U0
 replace H := z6 H
 obtain ⟨i0, V0, H⟩ := H
 have A4 := zK V0
 clear V0
 simp only [Option.some.injEq, Prod.mk.injEq] at H
 obtain ⟨rfl, rfl, rfl, rfl, rfl, rfl⟩ := H
 go_enter Try.func10, Try.ntmps10
 go_wp2_with (first | ((with_reducible refine gd 1 rfl ?_); refine zJ 1 #[.slice b0 x.length c0, .slice d0 y.length e0, .slice f0 z.length g0, .int .i64 O, .int .i64 T, .int .i64 U] 28 ?_; intro N3 hg w5 hbox hb; have A := z8 hb; have B := zK (hbox); have D := z9 hg; have E := z9 hg; revert A B D E; clear HB; intro HB a O3 R3; clear hb hbox hg) | ((with_reducible refine gd 2 rfl ?_); refine zJ 2 #[.slice none 0 0, .slice none 0 0, .slice none 0 0, .int .i64 0, .int .i64 0, .int .i64 0] 30 ?_; intro S0 hg w6 hbox hb; have A := z7 a hb; have B := z8 hb; have D := zK (hbox); have E := z9 hg; have J := z9 hg; have a0 := zHH hg a; have j0 := zGG hg a; revert A B D E J a0 j0; clear a HB; intro a HB q S3 T3 l0 m0; clear hb hbox hg) | ((with_reducible refine gd 3 rfl ?_); refine zJ 3 #[.slice none 0 0, .slice none 0 0, .slice none 0 0, .int .i64 0, .int .i64 0, .int .i64 0] 30 ?_; intro E0 hg w7 hbox hb; have A := z7 a hb; have B := z7 q hb; have D := z8 hb; have E := zK (hbox); have J := z9 hg; have a0 := z9 hg; have j0 := zHH hg a; have J3 := zGG hg a; have L3 := zHH hg q; have M3 := zGG hg q; revert A B D E J a0 j0 J3 L3 M3; clear a q HB; intro a q HB l U3 V3 n0 o0 p0 q0; clear hb hbox hg; have g4 := l0.out; have i4 := m0.out; have j4 := n0.out; have l4 := o0.out; obtain ⟨e1, f1, g1, i1, j1, l1, m1, n1, o1, p1, q1, s1⟩ := zc6 a) | ((with_reducible refine gc 11 rfl ?_); refine zF 6 Try.func11 #[.slice b0 x.length c0] rfl zL ?_; refine (laws_toIntS.calls k _ _ x L _ (zS J0) L0.out A2.out).mono ?_; rintro e m4 ⟨v236, rfl, M, hb⟩; refine ⟨_, rfl, ?_⟩; have A := zK (Kd.R_lower M (zz zB)); have B := z7 a hb; have D := z7 q hb; have E := z7 l hb; have J := z8 hb; revert A B D E J; clear a q l HB; intro u a q l HB; obtain ⟨s0, t0, X0⟩ := Kd.R_slice u.out; subst X0; have X3 := q0.out; have a4 := p0.out; obtain ⟨t1, x1, y1, A1, B1, C1, D1, E1, F1, G1, I1, J1⟩ := zc6 l; obtain ⟨L1, M1, N1, O1, R1, S1, T1, U1, V1, X1, a2, b2⟩ := zc6 a) | ((with_reducible refine gc 11 rfl ?_); refine zF 10 Try.func11 #[.slice d0 y.length e0] rfl zL ?_; refine (laws_toIntS.calls k _ _ y X _ (z4 M0.out zB) N0.out A3.out).mono ?_; rintro e n4 ⟨v239, rfl, M, hb⟩; refine ⟨_, rfl, ?_⟩; have A := zK (Kd.R_elder' (Kd.R_mono (zlR (Kd.R_types u.out l.out (by decide))) (fun _ h_ => h_.1)) (Kd.R_base M) hb); have B := zK (Kd.R_lower (Kd.R_new' M (Kd.R_lt (Kd.R_mono (zlR (Kd.R_types u.out l.out (by decide))) (fun _ h_ => h_.1)))) (zz zB)); have D := zK (zg (zV a) hb); have E := zK (zg (zV q) hb); have J := zK (zg (g := E0) (o := .cells #[.slice s0 L.length t0, .slice none 0 0, .slice none 0 0, .int .i64 0, .int .i64 0, .int .i64 0] 30 (0, 0)) (zW l) hb); have a0 := z8 hb; revert A B D E J a0; clear u a q l HB; intro u I a q l HB; obtain ⟨G0, I0, a1⟩ := Kd.R_slice I.out; subst a1; obtain ⟨c2, d2, e2, f2, g2, i2, j2, l2, m2, n2, o2, p2⟩ := zc6 l; obtain ⟨q2, s2, t2, x2, y2, B2, C2, D2, E2, F2, G2, I2⟩ := zc6 a) | ((with_reducible refine gc 11 rfl ?_); refine zF 14 Try.func11 #[.slice f0 z.length g0] rfl zL ?_; refine (laws_toIntS.calls k _ _ z i0 _ (z4 O0.out zB) R0.out A4.out).mono ?_; rintro e o4 ⟨v242, rfl, M, hb⟩; refine ⟨_, rfl, ?_⟩; have A := zK (Kd.R_elder' (Kd.R_mono (zlR (Kd.R_types u.out l.out (by decide))) (fun _ h_ => h_.1)) (Kd.R_base M) hb); have B := zK (Kd.R_elder' (Kd.R_mono (zlR (Kd.R_types I.out l.out (by decide))) (fun _ h_ => h_.1)) (Kd.R_base M) hb); have D := zK (Kd.R_lower (Kd.R_new' (Kd.R_new' M (Kd.R_lt (Kd.R_mono (zlR (Kd.R_types u.out l.out (by decide))) (fun _ h_ => h_.1)))) (Kd.R_lt (Kd.R_mono (zlR (Kd.R_types I.out l.out (by decide))) (fun _ h_ => h_.1)))) (zz zB)); have E := zK (zg (zV a) hb); have J := zK (zg (zV q) hb); have a0 := zK (zg (g := E0) (o := .cells #[.slice s0 L.length t0, .slice G0 X.length I0, .slice none 0 0, .int .i64 0, .int .i64 0, .int .i64 0] 30 (0, 0)) (zW l) hb); have j0 := z8 hb; revert A B D E J a0 j0; clear u I a q l HB; intro u I F0 a q l HB; obtain ⟨b1, c1, d1⟩ := Kd.R_slice F0.out; subst d1; obtain ⟨J2, L2, M2, N2, O2, R2, T2, U2, V2, X2, a3, b3⟩ := zc6 l; obtain ⟨c3, d3, e3, f3, g3, i3, j3, l3, m3, n3, o3, p3⟩ := zc6 a; obtain ⟨q3, s3, t3, x3, y3, B3, C3, D3, E3, F3, G3, I3⟩ := zc6 q))
 refine bodyPost_ret (results_cell_row rfl _ _ S0 30 #[.slice s0 L.length t0, .slice G0 X.length I0, .slice b1 i0.length c1, .int .i64 O, .int .i64 T, .int .i64 U] (0, 0) _ rfl (zW q) Try.underlying30 rfl (by kernel_rfl)) rfl ?_
 exact ⟨_, _, _, zE, Kd.R_mono (zlR (Kd.R_types (Kd.R_types u.out l.out (by decide)) q.out (by decide))) (fun _ hk => ⟨hk.1.1.1.2, hk.1.1.2⟩), Kd.R_mono (zlR (Kd.R_types (Kd.R_types I.out l.out (by decide)) q.out (by decide))) (fun _ hk => ⟨hk.1.1.1.2, hk.1.1.2⟩), Kd.R_mono (zlR (Kd.R_types (Kd.R_types F0.out l.out (by decide)) q.out (by decide))) (fun _ hk => ⟨hk.1.1.1.2, hk.1.1.2⟩), zB⟩
def impl_within.f (a : Int) (l : Int) (q : Int) : Option (Bool) := if a ≥ l then (some (decide (a ≤ q))) else (some false)
theorem impl_within.calls (l) (q) (u) (r : Bool) (w) (h : impl_within.f l q u = some r) :
 Calls Try.prog 62 #[.int .i64 l, .int .i64 q, .int .i64 u] w fun e w' => e = .returned (.bool r) ∧ Drawn0 w w' := by
 have H : (if l ≥ q then (some (decide (l ≤ u))) else (some false)) = some r := h
 clear h
 by_cases a : l ≥ q
 · rw [if_pos a] at H
   have x := z1 a
   clear a
   obtain rfl := z5 H
   go_enter Try.func62, Try.ntmps62
   go_wp2
   go_ret
   exact ⟨zR, zD⟩
 rw [if_neg a] at H
 have x := z2 a
 clear a
 obtain rfl := z5 H
 go_enter Try.func62, Try.ntmps62
 go_wp2
 go_ret
 exact ⟨zR, zD⟩
def impl_allWithin.l0 : Nat → Int → Int → List Int → Int → Int → Option (Bool)
 | 0, _, _, _, _, _ => none
 | k + 1, x, y, q, l, a => if a < l then (if 0 ≤ a then (if a < (q.length : Int) then ((impl_within.f (rd q a) x y).bind fun u => (if u = true then (impl_allWithin.l0 k x y q l (wrap64 (a + 1))) else (some false))) else (none)) else (none)) else (some true)
def impl_allWithin.f (k : Nat) (a : List Int) (l : Int) (q : Int) : Option (Bool) := impl_allWithin.l0 k l q a (a.length : Int) 0
theorem impl_allWithin.calls (k) (A0) (c0) (l : List Int) (x) (y) (r : Bool) (w) (L : Kd.C (Kd.int .i64) w A0 l.length l) (M : l.length ≤ c0) (h : impl_allWithin.f k l x y = some r) :
 Calls Try.prog 61 #[.slice A0 l.length c0, .int .i64 x, .int .i64 y] w fun e w' => e = .returned (.bool r) ∧ Drawn0 w w' := by
 have O := zK L
 have i0 := zK M
 clear L M
 have H : (impl_allWithin.l0 k x y l (l.length : Int) 0) = some r := h
 clear h
 have H' := zK H
 clear H
 go_enter Try.func61, Try.ntmps61
 go_wp2
 go_loopg [11] k (fun kq v11 w' => ∃ (a : Int), v11 = .int .i64 a ∧ Aside0 (impl_allWithin.l0 kq x y l (l.length : Int) a = some r) ∧ Aside0 (kq ≤ k) ∧ Drawn0 w w')
 case atStart => exact ⟨(0), zR, H', ⟨Nat.le_refl _⟩, zD⟩
 clear H'
 try clear p2
 obtain ⟨a, rfl, HA, T, ⟨m1, rfl⟩⟩ := hrel
 rcases gk with _ | k1
 · exact absurd HA.out (by simp [impl_allWithin.l0])
 have H := HA.out
 clear HA
 simp only [impl_allWithin.l0] at H
 by_cases A : a < (l.length : Int)
 rotate_left
 · rw [if_neg A] at H
   have X := z2 A
   clear A
   obtain rfl := z5 H
   go_wp2
   go_ret
   exact ⟨zR, zD⟩
 rw [if_pos A] at H
 have X := z1 A
 clear A
 by_cases D : 0 ≤ a
 rotate_left
 · rw [if_neg D] at H
   exact absurd H (by simp)
 rw [if_pos D] at H
 have f0 := z1 D
 clear D
 by_cases E : a < (l.length : Int)
 rotate_left
 · rw [if_neg E] at H
   exact absurd H (by simp)
 rw [if_pos E] at H
 have g0 := z1 E
 clear E
 replace H := z6 H
 obtain ⟨a0, U, H⟩ := H
 have A7 := zK U
 clear U
 by_cases I : a0 = true
 rotate_left
 · replace I := Bool.eq_false_iff.mpr I
   subst I
   rw [if_neg (show ¬ (false = true) by decide)] at H
   obtain rfl := z5 H
   have q : 0 ≤ (a : Int) := z3
   have u : a < (l.length : Int) := z3
   obtain ⟨J, z, B⟩ := Kd.at_int O.out a q u
   cases z
   replace q := eq_true q
   replace u := eq_true u
   go_wp2_with (first | ((with_reducible refine gc 62 rfl ?_); refine zF 18 Try.func62 #[.int .i64 (rd l a), .int .i64 x, .int .i64 y] rfl zL ?_; (with_reducible refine (impl_within.calls (rd l a) x y false _ A7.out).mono ?_); rintro e w' ⟨rfl, ⟨nd, rfl⟩⟩; refine ⟨_, rfl, ?_⟩))
   go_ret
   exact ⟨zR, zD⟩
 subst I
 rw [if_pos rfl] at H
 have H' := zK H
 clear H
 have q : 0 ≤ (a : Int) := z3
 have u : a < (l.length : Int) := z3
 obtain ⟨J, z, B⟩ := Kd.at_int O.out a q u
 cases z
 replace q := eq_true q
 replace u := eq_true u
 go_wp2_with (first | ((with_reducible refine gc 62 rfl ?_); refine zF 18 Try.func62 #[.int .i64 (rd l a), .int .i64 x, .int .i64 y] rfl zL ?_; (with_reducible refine (impl_within.calls (rd l a) x y true _ A7.out).mono ?_); rintro e w' ⟨rfl, ⟨nd, rfl⟩⟩; refine ⟨_, rfl, ?_⟩))
 go_roundg k1
 case measure => have := T.out; omega
 case rel => exact ⟨(wrap64 (a + 1)), zR, H', ⟨by have := T.out; omega⟩, zD⟩
def impl_OptOk.f (k : Nat) (a : List Int) (q : List Int) (u : List Int) (x : Int) (l : Int) (y : Int) : Option (Bool) := if (a.length : Int) ≤ 4096 then (if (q.length : Int) = (a.length : Int) then (if (u.length : Int) = (a.length : Int) then ((impl_allWithin.f k a (-68719476736) 68719476736).bind fun z => (if z = true then ((impl_allWithin.f k q (-4294967296) 4294967296).bind fun A => (if A = true then ((impl_allWithin.f k u 0 17179869184).bind fun B => (if B = true then ((impl_within.f x 0 1000000).bind fun D => (if D = true then ((impl_within.f l 1 65536).bind fun E => (if E = true then (if (Go.bits .and .i64 l (wrap64 (l - 1))) = 0 then ((impl_within.f y 0 1000000).bind fun I => (some I)) else (some false)) else (some false))) else (some false))) else (some false))) else (some false))) else (some false))) else (some false)) else (some false)) else (some false)
theorem impl_OptOk.calls (k) (J) (L) (a : List Int) (M) (O) (l : List Int) (T) (U) (q : List Int) (A) (u) (B) (r : Bool) (w) (g0 : Kd.C (Kd.int .i64) w J a.length a) (i0 : a.length ≤ L) (j0 : Kd.C (Kd.int .i64) w M l.length l) (l0 : l.length ≤ O) (m0 : Kd.C (Kd.int .i64) w T q.length q) (n0 : q.length ≤ U) (h : impl_OptOk.f k a l q A u B = some r) :
 Calls Try.prog 26 #[.agg #[.slice J a.length L, .slice M l.length O, .slice T q.length U, .int .i64 A, .int .i64 u, .int .i64 B]] w fun e w' => e = .returned (.bool r) ∧ Below w.heap.size w w' := by
 have C1 := Try.underlying30
 have x0 := zK g0
 have y0 := zK i0
 clear g0 i0
 have A0 := zK j0
 have B0 := zK l0
 clear j0 l0
 have C0 := zK m0
 have D0 := zK n0
 clear m0 n0
 have HB := zK (Below.refl w.heap.size w)
 have H : (if (a.length : Int) ≤ 4096 then (if (l.length : Int) = (a.length : Int) then (if (q.length : Int) = (a.length : Int) then ((impl_allWithin.f k a (-68719476736) 68719476736).bind fun X => (if X = true then ((impl_allWithin.f k l (-4294967296) 4294967296).bind fun a0 => (if a0 = true then ((impl_allWithin.f k q 0 17179869184).bind fun b0 => (if b0 = true then ((impl_within.f A 0 1000000).bind fun c0 => (if c0 = true then ((impl_within.f u 1 65536).bind fun d0 => (if d0 = true then (if (Go.bits .and .i64 u (wrap64 (u - 1))) = 0 then ((impl_within.f B 0 1000000).bind fun e0 => (some e0)) else (some false)) else (some false))) else (some false))) else (some false))) else (some false))) else (some false))) else (some false)) else (some false)) else (some false)) = some r := h
 clear h
 rcases zN ((a.length : Int) ≤ 4096) with c2 | c2
 rw [if_neg c2] at H
 have M0 := z2 c2
 have N0 : decide (a.length ≤ 4096) = false := z2 (by omega)
 clear c2
 obtain rfl := z5 H
 rotate_left
 rw [if_pos c2] at H
 have M0 := z1 c2
 have N0 : decide (a.length ≤ 4096) = true := z1 (by omega)
 clear c2
 rcases zN ((l.length : Int) = (a.length : Int)) with y | y
 rw [if_neg y] at H
 have O0 := beq_eq_false_iff_ne.mpr y
 have R0 := bne_iff_ne.mpr y
 have S0 : (l.length == a.length) = false := by first | simpa using y | (simp at y ⊢; omega)
 obtain rfl := z5 H
 rotate_left
 rw [if_pos y] at H
 have O0 := beq_iff_eq.mpr y
 have R0 := bne_eq_false_iff_eq.mpr y
 have S0 : (l.length == a.length) = true := by first | simpa using y | (simp at y ⊢; omega)
 clear y
 rcases zN ((q.length : Int) = (a.length : Int)) with z | z
 rw [if_neg z] at H
 have T0 := beq_eq_false_iff_ne.mpr z
 have U0 := bne_iff_ne.mpr z
 have V0 : (q.length == a.length) = false := by first | simpa using z | (simp at z ⊢; omega)
 obtain rfl := z5 H
 rotate_left
 rw [if_pos z] at H
 have T0 := beq_iff_eq.mpr z
 have U0 := bne_eq_false_iff_eq.mpr z
 have V0 : (q.length == a.length) = true := by first | simpa using z | (simp at z ⊢; omega)
 clear z
 replace H := z6 H
 obtain ⟨X, I0, H⟩ := H
 have A5 := zK I0
 clear I0
 rcases zN (X = true) with c6 | c6
 replace c6 := Bool.eq_false_iff.mpr c6
 subst c6
 rw [if_neg (show ¬ (false = true) by decide)] at H
 obtain rfl := z5 H
 rotate_left
 subst c6
 rw [if_pos rfl] at H
 replace H := z6 H
 obtain ⟨a0, J0, H⟩ := H
 have A7 := zK J0
 clear J0
 rcases zN (a0 = true) with c8 | c8
 replace c8 := Bool.eq_false_iff.mpr c8
 subst c8
 rw [if_neg (show ¬ (false = true) by decide)] at H
 obtain rfl := z5 H
 rotate_left
 subst c8
 rw [if_pos rfl] at H
 replace H := z6 H
 obtain ⟨b0, L0, H⟩ := H
 have A9 := zK L0
 clear L0
 rcases zN (b0 = true) with D | D
 replace D := Bool.eq_false_iff.mpr D
 subst D
 rw [if_neg (show ¬ (false = true) by decide)] at H
 obtain rfl := z5 H
 rotate_left
 subst D
 rw [if_pos rfl] at H
 replace H := z6 H
 obtain ⟨c0, q0, H⟩ := H
 have n1 := zK q0
 clear q0
 rcases zN (c0 = true) with E | E
 replace E := Bool.eq_false_iff.mpr E
 subst E
 rw [if_neg (show ¬ (false = true) by decide)] at H
 obtain rfl := z5 H
 rotate_left
 subst E
 rw [if_pos rfl] at H
 replace H := z6 H
 obtain ⟨d0, s0, H⟩ := H
 have o1 := zK s0
 clear s0
 rcases zN (d0 = true) with I | I
 replace I := Bool.eq_false_iff.mpr I
 subst I
 rw [if_neg (show ¬ (false = true) by decide)] at H
 obtain rfl := z5 H
 rotate_left
 subst I
 rw [if_pos rfl] at H
 rcases zN ((Go.bits .and .i64 u (wrap64 (u - 1))) = 0) with x | x
 rw [if_neg x] at H
 have E0 := beq_eq_false_iff_ne.mpr x
 have F0 := bne_iff_ne.mpr x
 obtain rfl := z5 H
 rotate_left
 rw [if_pos x] at H
 have E0 := beq_iff_eq.mpr x
 have F0 := bne_eq_false_iff_eq.mpr x
 clear x
 replace H := z6 H
 obtain ⟨e0, t0, H⟩ := H
 have p1 := zK t0
 clear t0
 obtain rfl := z5 H
 all_goals go_enter Try.func26, Try.ntmps26
 all_goals go_wp2_with (first | ((with_reducible refine gd 1 rfl ?_); (try (refine gate_guard (by rfl) ?_; dsimp only)); refine zJ 1 #[.slice J a.length L, .slice M l.length O, .slice T q.length U, .int .i64 A, .int .i64 u, .int .i64 B] 30 ?_; intro y1 hg G1 hbox hb; have q1 := z8 hb; have s1 := zK (hbox); have t1 := z9 hg; have x1 := z9 hg; revert q1 s1 t1 x1; clear HB; intro HB G0 A1 B1; clear hb hbox hg; obtain ⟨X0, a1, b1, c1, d1, e1, f1, g1, i1, j1, l1, m1⟩ := zc6 G0) | (go_at_call 61; (with_reducible refine (impl_allWithin.calls k _ _ a (-68719476736) 68719476736 _ _ ?side1 ?side2 A5.out).mono ?_); (case side1 => exact zS x0); (case side2 => exact y0.out); rintro e w' ⟨rfl, ⟨nd, rfl⟩⟩) | (go_at_call 61; (with_reducible refine (impl_allWithin.calls k _ _ l (-4294967296) 4294967296 _ _ ?side1 ?side2 A7.out).mono ?_); (case side1 => exact zS A0); (case side2 => exact B0.out); rintro e w' ⟨rfl, ⟨nd, rfl⟩⟩) | (go_at_call 61; (with_reducible refine (impl_allWithin.calls k _ _ q 0 17179869184 _ _ ?side1 ?side2 A9.out).mono ?_); (case side1 => exact zS C0); (case side2 => exact D0.out); rintro e w' ⟨rfl, ⟨nd, rfl⟩⟩) | (go_at_call 62; (with_reducible refine (impl_within.calls A 0 1000000 _ _ n1.out).mono ?_); rintro e w' ⟨rfl, ⟨nd, rfl⟩⟩) | (go_at_call 62; (with_reducible refine (impl_within.calls u 1 65536 _ _ o1.out).mono ?_); rintro e w' ⟨rfl, ⟨nd, rfl⟩⟩) | (go_at_call 62; (with_reducible refine (impl_within.calls B 0 1000000 e0 _ p1.out).mono ?_); rintro e w' ⟨rfl, ⟨nd, rfl⟩⟩))
 all_goals go_ret
 all_goals exact ⟨zE, zB⟩
def impl_SchedOk.f (a : Int) (q : Int) (u : Int) (l : Int) : Option (Bool) := (impl_within.f a 0 16777216).bind fun x => (if x = true then ((impl_within.f q 0 a).bind fun y => (if y = true then ((impl_within.f l 0 1000000).bind fun z => (if z = true then ((impl_within.f u 0 l).bind fun A => (some A)) else (some false))) else (some false))) else (some false))
theorem impl_SchedOk.calls (a) (q) (u) (l) (r : Bool) (w) (h : impl_SchedOk.f a q u l = some r) :
 Calls Try.prog 68 #[.agg #[.int .i64 a, .int .i64 q, .int .i64 u, .int .i64 l]] w fun e w' => e = .returned (.bool r) ∧ Below w.heap.size w w' := by
 have o0 := Try.underlying33
 have HB := zK (Below.refl w.heap.size w)
 have H : ((impl_within.f a 0 16777216).bind fun x => (if x = true then ((impl_within.f q 0 a).bind fun y => (if y = true then ((impl_within.f l 0 1000000).bind fun z => (if z = true then ((impl_within.f u 0 l).bind fun A => (some A)) else (some false))) else (some false))) else (some false))) = some r := h
 clear h
 replace H := z6 H
 obtain ⟨x, J, H⟩ := H
 have A2 := zK J
 clear J
 rcases zN (x = true) with B | B
 replace B := Bool.eq_false_iff.mpr B
 subst B
 rw [if_neg (show ¬ (false = true) by decide)] at H
 obtain rfl := z5 H
 rotate_left
 subst B
 rw [if_pos rfl] at H
 replace H := z6 H
 obtain ⟨y, L, H⟩ := H
 have A4 := zK L
 clear L
 rcases zN (y = true) with D | D
 replace D := Bool.eq_false_iff.mpr D
 subst D
 rw [if_neg (show ¬ (false = true) by decide)] at H
 obtain rfl := z5 H
 rotate_left
 subst D
 rw [if_pos rfl] at H
 replace H := z6 H
 obtain ⟨z, M, H⟩ := H
 have A6 := zK M
 clear M
 rcases zN (z = true) with E | E
 replace E := Bool.eq_false_iff.mpr E
 subst E
 rw [if_neg (show ¬ (false = true) by decide)] at H
 obtain rfl := z5 H
 rotate_left
 subst E
 rw [if_pos rfl] at H
 replace H := z6 H
 obtain ⟨A, O, H⟩ := H
 have A8 := zK O
 clear O
 obtain rfl := z5 H
 all_goals go_enter Try.func68, Try.ntmps68
 all_goals go_wp2_with (first | ((with_reducible refine gd 1 rfl ?_); refine zJ 1 #[.int .i64 a, .int .i64 q, .int .i64 u, .int .i64 l] 33 ?_; intro l0 hg w9 hbox hb; have f0 := z8 hb; have g0 := zK (hbox); have i0 := z9 hg; have j0 := z9 hg; revert f0 g0 i0 j0; clear HB; intro HB I m0 n0; clear hb hbox hg; obtain ⟨T, U, X, a0, b0, c0, d0, e0⟩ := zc4 I) | ((with_reducible refine gc 62 rfl ?_); refine zF 5 Try.func62 #[.int .i64 a, .int .i64 0, .int .i64 16777216] rfl zL ?_; (with_reducible refine (impl_within.calls a 0 16777216 _ _ A2.out).mono ?_); rintro e w' ⟨rfl, ⟨nd, rfl⟩⟩; refine ⟨_, rfl, ?_⟩) | (go_at_call 62; (with_reducible refine (impl_within.calls q 0 a _ _ A4.out).mono ?_); rintro e w' ⟨rfl, ⟨nd, rfl⟩⟩) | (go_at_call 62; (with_reducible refine (impl_within.calls l 0 1000000 _ _ A6.out).mono ?_); rintro e w' ⟨rfl, ⟨nd, rfl⟩⟩) | (go_at_call 62; (with_reducible refine (impl_within.calls u 0 l A _ A8.out).mono ?_); rintro e w' ⟨rfl, ⟨nd, rfl⟩⟩))
 all_goals go_ret
 all_goals exact ⟨zE, zB⟩
def impl_isPart.f (l : Int) : Option (Bool) := (impl_within.f l 0 65536).bind fun a => (some a)
theorem impl_isPart.calls (l) (r : Bool) (w) (h : impl_isPart.f l = some r) :
 Calls Try.prog 69 #[.int .i64 l] w fun e w' => e = .returned (.bool r) ∧ Drawn0 w w' := by
 have H : ((impl_within.f l 0 65536).bind fun a => (some a)) = some r := h
 clear h
 replace H := z6 H
 obtain ⟨a, q, H⟩ := H
 have u := zK q
 clear q
 obtain rfl := z5 H
 go_enter Try.func69, Try.ntmps69
 go_wp2_with (first | ((with_reducible refine gc 62 rfl ?_); refine zF 4 Try.func62 #[.int .i64 l, .int .i64 0, .int .i64 65536] rfl zL ?_; (with_reducible refine (impl_within.calls l 0 65536 a _ u.out).mono ?_); rintro e w' ⟨rfl, ⟨nd, rfl⟩⟩; refine ⟨_, rfl, ?_⟩))
 go_ret
 exact ⟨zR, zD⟩
def impl_RuleOk.f (l : Int) (q : Int) (u : Int) (x : Int) (y : Int) (z : Int) (A : Int) (B : Int) (D : Int) (E : Int) (a : Int) : Option (Bool) := (impl_within.f l 1 3).bind fun I => (if I = true then ((impl_SchedOk.f q u x y).bind fun J => (if J = true then ((impl_isPart.f z).bind fun L => (if L = true then ((impl_isPart.f A).bind fun M => (if M = true then ((impl_isPart.f D).bind fun O => (if O = true then ((impl_within.f B 1 16777216).bind fun T => (if T = true then ((impl_within.f E 0 1073741824).bind fun U => (if U = true then ((impl_within.f a 0 1000000).bind fun X => (some X)) else (some false))) else (some false))) else (some false))) else (some false))) else (some false))) else (some false))) else (some false))
theorem impl_RuleOk.calls (q) (u) (x) (y) (z) (A) (B) (D) (E) (I) (a) (r : Bool) (w) (h : impl_RuleOk.f q u x y z A B D E I a = some r) :
 Calls Try.prog 43 #[.agg #[.int .i64 q, .int .i64 u, .int .i64 x, .int .i64 y, .int .i64 z, .int .i64 A, .int .i64 B, .int .i64 D, .int .i64 E, .int .i64 I, .int .i64 a]] w fun e w' => e = .returned (.bool r) ∧ Below w.heap.size w w' := by
 have S1 := Try.underlying35
 have T1 := Try.underlying33
 have HB := zK (Below.refl w.heap.size w)
 have H : ((impl_within.f q 1 3).bind fun O => (if O = true then ((impl_SchedOk.f u x y z).bind fun T => (if T = true then ((impl_isPart.f A).bind fun U => (if U = true then ((impl_isPart.f B).bind fun X => (if X = true then ((impl_isPart.f E).bind fun a0 => (if a0 = true then ((impl_within.f D 1 16777216).bind fun b0 => (if b0 = true then ((impl_within.f I 0 1073741824).bind fun c0 => (if c0 = true then ((impl_within.f a 0 1000000).bind fun d0 => (some d0)) else (some false))) else (some false))) else (some false))) else (some false))) else (some false))) else (some false))) else (some false))) = some r := h
 clear h
 replace H := z6 H
 obtain ⟨O, q0, H⟩ := H
 have A2 := zK q0
 clear q0
 rcases zN (O = true) with c3 | c3
 replace c3 := Bool.eq_false_iff.mpr c3
 subst c3
 rw [if_neg (show ¬ (false = true) by decide)] at H
 obtain rfl := z5 H
 rotate_left
 subst c3
 rw [if_pos rfl] at H
 replace H := z6 H
 obtain ⟨T, s0, H⟩ := H
 have A4 := zK s0
 clear s0
 rcases zN (T = true) with c5 | c5
 replace c5 := Bool.eq_false_iff.mpr c5
 subst c5
 rw [if_neg (show ¬ (false = true) by decide)] at H
 obtain rfl := z5 H
 rotate_left
 subst c5
 rw [if_pos rfl] at H
 replace H := z6 H
 obtain ⟨U, t0, H⟩ := H
 have A6 := zK t0
 clear t0
 rcases zN (U = true) with c7 | c7
 replace c7 := Bool.eq_false_iff.mpr c7
 subst c7
 rw [if_neg (show ¬ (false = true) by decide)] at H
 obtain rfl := z5 H
 rotate_left
 subst c7
 rw [if_pos rfl] at H
 replace H := z6 H
 obtain ⟨X, x0, H⟩ := H
 have A8 := zK x0
 clear x0
 rcases zN (X = true) with c9 | c9
 replace c9 := Bool.eq_false_iff.mpr c9
 subst c9
 rw [if_neg (show ¬ (false = true) by decide)] at H
 obtain rfl := z5 H
 rotate_left
 subst c9
 rw [if_pos rfl] at H
 replace H := z6 H
 obtain ⟨a0, j0, H⟩ := H
 have F1 := zK j0
 clear j0
 rcases zN (a0 = true) with J | J
 replace J := Bool.eq_false_iff.mpr J
 subst J
 rw [if_neg (show ¬ (false = true) by decide)] at H
 obtain rfl := z5 H
 rotate_left
 subst J
 rw [if_pos rfl] at H
 replace H := z6 H
 obtain ⟨b0, l0, H⟩ := H
 have G1 := zK l0
 clear l0
 rcases zN (b0 = true) with L | L
 replace L := Bool.eq_false_iff.mpr L
 subst L
 rw [if_neg (show ¬ (false = true) by decide)] at H
 obtain rfl := z5 H
 rotate_left
 subst L
 rw [if_pos rfl] at H
 replace H := z6 H
 obtain ⟨c0, m0, H⟩ := H
 have I1 := zK m0
 clear m0
 rcases zN (c0 = true) with M | M
 replace M := Bool.eq_false_iff.mpr M
 subst M
 rw [if_neg (show ¬ (false = true) by decide)] at H
 obtain rfl := z5 H
 rotate_left
 subst M
 rw [if_pos rfl] at H
 replace H := z6 H
 obtain ⟨d0, n0, H⟩ := H
 have J1 := zK n0
 clear n0
 obtain rfl := z5 H
 all_goals go_enter Try.func43, Try.ntmps43
 all_goals go_wp2_with (first | ((with_reducible refine gd 1 rfl ?_); refine zJ 1 #[.int .i64 q, .int .i64 u, .int .i64 x, .int .i64 y, .int .i64 z, .int .i64 A, .int .i64 B, .int .i64 D, .int .i64 E, .int .i64 I, .int .i64 a] 35 ?_; intro N1 hg b2 hbox hb; have o0 := z8 hb; have p0 := zK (hbox); have L1 := z9 hg; have M1 := z9 hg; revert o0 p0 L1 M1; clear HB; intro HB l O1 R1; clear hb hbox hg; obtain ⟨D0, E0, F0, G0, I0, J0, L0, M0, N0, O0, y0, R0, S0, T0, U0, V0, X0, a1, b1, c1, d1, A0⟩ := zc11 l) | ((with_reducible refine gc 62 rfl ?_); refine zF 5 Try.func62 #[.int .i64 q, .int .i64 1, .int .i64 3] rfl zL ?_; (with_reducible refine (impl_within.calls q 1 3 _ _ A2.out).mono ?_); rintro e w' ⟨rfl, ⟨nd, rfl⟩⟩; refine ⟨_, rfl, ?_⟩) | (go_at_call 68; (with_reducible refine (impl_SchedOk.calls u x y z _ _ A4.out).mono ?_); rintro e c2 ⟨rfl, hb⟩; have o0 := z7 l hb; have p0 := z8 hb; revert o0 p0; clear l HB; intro l HB; obtain ⟨e1, f1, g1, i1, j1, l1, m1, n1, o1, p1, B0, q1, s1, t1, x1, y1, A1, B1, C1, D1, E1, C0⟩ := zc11 l) | (go_at_call 69; (with_reducible refine (impl_isPart.calls A _ _ A6.out).mono ?_); rintro e w' ⟨rfl, ⟨nd, rfl⟩⟩) | (go_at_call 69; (with_reducible refine (impl_isPart.calls B _ _ A8.out).mono ?_); rintro e w' ⟨rfl, ⟨nd, rfl⟩⟩) | (go_at_call 69; (with_reducible refine (impl_isPart.calls E _ _ F1.out).mono ?_); rintro e w' ⟨rfl, ⟨nd, rfl⟩⟩) | (go_at_call 62; (with_reducible refine (impl_within.calls D 1 16777216 _ _ G1.out).mono ?_); rintro e w' ⟨rfl, ⟨nd, rfl⟩⟩) | (go_at_call 62; (with_reducible refine (impl_within.calls I 0 1073741824 _ _ I1.out).mono ?_); rintro e w' ⟨rfl, ⟨nd, rfl⟩⟩) | (go_at_call 62; (with_reducible refine (impl_within.calls a 0 1000000 d0 _ J1.out).mono ?_); rintro e w' ⟨rfl, ⟨nd, rfl⟩⟩))
 all_goals go_ret
 all_goals exact ⟨zE, zB⟩
end Go.Proofs.Ytodfhokndnmdoaa.PFnExactStepOpt
