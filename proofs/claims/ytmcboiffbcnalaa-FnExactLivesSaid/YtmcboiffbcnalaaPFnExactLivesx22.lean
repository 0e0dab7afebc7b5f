-- Printed out of the translation by this session's own turned copy of a printer; Lean checks it.
import Derived.Test.YtmcboiffbcnalaaPFnExactLivesx0
import Derived.Test.YtmcboiffbcnalaaPFnExactLivesx19
import Derived.Test.YtmcboiffbcnalaaPFnExactLivesx20
import Derived.Test.YtmcboiffbcnalaaPFnExactLivesx21
namespace Go.Proofs.Ytmcboiffbcnalaa.PFnExactLives
open Go.RowKit Go.Proofs.YtmcboiffbcnalaaW.PrintWords Go.Proofs.YtmcboiffbcnalaaW.PrintLast Go.Proofs.YtmcboiffbcnalaaW.PrintMore
attribute [local go_sem] max2_int min2_int max_two min_two max_three min_three max_four min_four
set_option linter.unusedVariables false
set_option linter.unusedSimpArgs false
set_option maxHeartbeats 8000000
set_option maxRecDepth 100000
def laws_eqKernelS.l0 : Nat → List (S79) → List (S79) → Int → Option (Bool)
 | 0, _, _, _ => none
 | k + 1, q, u, l => if l < (q.length : Int) then (if 0 ≤ l then (if l < (u.length : Int) then ((laws_eqKernel.f k ((rd_T79 q l).f0) ((rd_T79 q l).f1) ((rd_T79 q l).f2.f0) ((rd_T79 q l).f2.f1) ((rd_T79 q l).f2.f2) ((rd_T79 q l).f3) ((rd_T79 q l).f4) ((rd_T79 u l).f0) ((rd_T79 u l).f1) ((rd_T79 u l).f2.f0) ((rd_T79 u l).f2.f1) ((rd_T79 u l).f2.f2) ((rd_T79 u l).f3) ((rd_T79 u l).f4)).bind fun y => (if y = true then (laws_eqKernelS.l0 k q u (wrap64 (l + 1))) else (some false))) else (none)) else (none)) else (some true)
def laws_eqKernelS.f (k : Nat) (l : List (S79)) (q : List (S79)) : Option (Bool) := if (l.length : Int) = (q.length : Int) then (laws_eqKernelS.l0 k l q 0) else (some false)
def laws_eqKernelS.T6 : Bool × List (List Nat × List Nat) := (true, [([], []), ([], []), ([0, 1], [0, 1]), ([2], [2]), ([], []), ([], []), ([4, 5], [4, 5]), ([6], [6]), ([3, 7], [3, 7]), ([8], [8])])
def laws_eqKernelS.B6 : List Nat := [0, 0, 3, 7, 0, 0, 48, 112, 255, 511]
theorem laws_eqKernelS.tab6 : rtab .any (opsOf Try.f34 6) = laws_eqKernelS.T6 := by kernel_rfl
theorem laws_eqKernelS.bits6 : waitsOk laws_eqKernelS.T6.2 laws_eqKernelS.B6 = true := by kernel_rfl
theorem laws_eqKernelS.calls (k) (A0) (c0) (y : List (S79)) (A1) (c1) (z : List (S79)) (r : Bool) (w) (C2 : Kd.C k79 w A0 y.length y) (D2 : y.length ≤ c0) (E2 : Kd.C k79 w A1 z.length z) (F2 : z.length ≤ c1) (h : laws_eqKernelS.f k y z = some r) :
 Calls Try.prog 34 #[.slice A0 y.length c0, .slice A1 z.length c1] w fun e w' => e = .returned (.bool r) ∧ Below w.heap.size w w' := by
 have n3 := Try.underlying79
 have G2 := zK C2
 have q3 := zK D2
 clear C2 D2
 have I2 := zK E2
 have t3 := zK F2
 clear E2 F2
 have HB := zK (Below.refl w.heap.size w)
 have H : (if (y.length : Int) = (z.length : Int) then (laws_eqKernelS.l0 k y z 0) else (some false)) = some r := h
 clear h
 by_cases c3 : (y.length : Int) = (z.length : Int)
 rotate_left
 · rw [if_neg c3] at H
   have l2 := beq_eq_false_iff_ne.mpr c3
   have m2 := bne_iff_ne.mpr c3
   have n2 : (y.length == z.length) = false := by first | simpa using c3 | (simp at c3 ⊢; omega)
   obtain rfl := z5 H
   go_enter Try.func34, Try.ntmps34
   go_wp2
   go_ret
   exact ⟨zE, zB⟩
 rw [if_pos c3] at H
 have l2 := beq_iff_eq.mpr c3
 have m2 := bne_eq_false_iff_eq.mpr c3
 have n2 : (y.length == z.length) = true := by first | simpa using c3 | (simp at c3 ⊢; omega)
 clear c3
 have H' := zK H
 clear H
 go_enter Try.func34, Try.ntmps34
 go_wp2
 go_loopg [5] k (fun kq v5 w' => ∃ (l : Int), v5 = .int .i64 l ∧ Aside0 (laws_eqKernelS.l0 kq y z l = some r) ∧ Aside0 (kq ≤ k) ∧ Aside0 (Below w.heap.size w w'))
 case atStart => exact ⟨(0), zR, H', ⟨Nat.le_refl _⟩, ⟨zB⟩⟩
 clear H'
 try clear c1
 try clear p2
 try clear c3
 try clear l2
 try clear m2
 try clear n2
 obtain ⟨l, rfl, HA, J2, HB⟩ := hrel
 rcases gk with _ | k1
 · exact absurd HA.out (by simp [laws_eqKernelS.l0])
 have H := HA.out
 clear HA
 simp only [laws_eqKernelS.l0] at H
 by_cases c4 : l < (y.length : Int)
 rotate_left
 · rw [if_neg c4] at H
   have N2 := z2 c4
   clear c4
   obtain rfl := z5 H
   go_wp2
   go_ret
   exact ⟨zE, zB⟩
 rw [if_pos c4] at H
 have N2 := z1 c4
 clear c4
 by_cases c5 : 0 ≤ l
 rotate_left
 · rw [if_neg c5] at H
   exact absurd H (by simp)
 rw [if_pos c5] at H
 have o3 := z1 c5
 clear c5
 by_cases c6 : l < (z.length : Int)
 rotate_left
 · rw [if_neg c6] at H
   exact absurd H (by simp)
 rw [if_pos c6] at H
 have p3 := z1 c6
 clear c6
 replace H := z6 H
 obtain ⟨O2, L2, H⟩ := H
 have A7 := zK L2
 clear L2
 by_cases c8 : O2 = true
 rotate_left
 · replace c8 := Bool.eq_false_iff.mpr c8
   subst c8
   rw [if_neg (show ¬ (false = true) by decide)] at H
   obtain rfl := z5 H
   try go_wp2
   have e2 := zK (ze HB.out)
   revert e2
   clear HB
   intro HB
   have M1 : 0 ≤ (l : Int) := z3
   have N1 : l < (y.length : Int) := z3
   obtain ⟨q, n1, o1, p1, q1, t1, x1, y1, B1, g2, A, B, E, I, J, L, M, e0, g0, i0, j0, m0, n0, o0, p0⟩ := at_T79 G2.out l M1 N1
   have q0 := M
   have t0 := L
   have x0 := J
   have y0 := I
   have B0 := E
   have C0 := B
   have D0 := A
   cases g2
   (try replace A := zX HB A)
   (try replace B := zX HB B)
   (try replace E := zX HB E)
   (try replace I := zX HB I)
   (try replace J := zX HB J)
   (try replace L := zX HB L)
   (try replace M := zX HB M)
   have E0 := zK g0
   have S1 := zK e0
   clear g0 e0
   have F0 := zK j0
   have T1 := zK i0
   clear j0 i0
   have G0 := zK n0
   have U1 := zK m0
   clear n0 m0
   have I0 := zK p0
   have V1 := zK o0
   clear p0 o0
   replace M1 := eq_true M1
   replace N1 := eq_true N1
   have O1 : 0 ≤ (l : Int) := z3
   have R1 : l < (z.length : Int) := z3
   obtain ⟨u, C1, D1, E1, F1, G1, I1, J1, L1, i2, O, T, U, X, a0, b0, d0, J0, L0, M0, N0, O0, R0, S0, T0⟩ := at_T79 I2.out l O1 R1
   have U0 := d0
   have V0 := b0
   have X0 := a0
   have a1 := X
   have b1 := U
   have d1 := T
   have e1 := O
   cases i2
   (try replace O := zX HB O)
   (try replace T := zX HB T)
   (try replace U := zX HB U)
   (try replace X := zX HB X)
   (try replace a0 := zX HB a0)
   (try replace b0 := zX HB b0)
   (try replace d0 := zX HB d0)
   have g1 := zK L0
   have X1 := zK J0
   clear L0 J0
   have i1 := zK N0
   have a2 := zK M0
   clear N0 M0
   have j1 := zK R0
   have b2 := zK O0
   clear R0 O0
   have m1 := zK T0
   have c2 := zK S0
   clear T0 S0
   replace O1 := eq_true O1
   replace R1 := eq_true R1
   refine start_ (n := 10) (S := fun w' => w'.cell? (q.add ((l).toNat * 7)) = some (.slice n1 ((rd_T79 y l).f0).length o1) ∧ w'.cell? ⟨(q.add ((l).toNat * 7)).block, (q.add ((l).toNat * 7)).off + 1, none⟩ = some (.slice p1 ((rd_T79 y l).f1).length q1) ∧ w'.cell? ⟨(q.add ((l).toNat * 7)).block, (q.add ((l).toNat * 7)).off + 2, none⟩ = some (.int .i64 ((rd_T79 y l).f2.f0)) ∧ w'.cell? ⟨(q.add ((l).toNat * 7)).block, (q.add ((l).toNat * 7)).off + 3, none⟩ = some (.int .i64 ((rd_T79 y l).f2.f1)) ∧ w'.cell? ⟨(q.add ((l).toNat * 7)).block, (q.add ((l).toNat * 7)).off + 4, none⟩ = some (.slice t1 ((rd_T79 y l).f2.f2).length x1) ∧ w'.cell? ⟨(q.add ((l).toNat * 7)).block, (q.add ((l).toNat * 7)).off + 5, none⟩ = some (.bool ((rd_T79 y l).f3)) ∧ w'.cell? ⟨(q.add ((l).toNat * 7)).block, (q.add ((l).toNat * 7)).off + 6, none⟩ = some (.slice y1 ((rd_T79 y l).f4).length B1) ∧ w'.cell? (u.add ((l).toNat * 7)) = some (.slice C1 ((rd_T79 z l).f0).length D1) ∧ w'.cell? ⟨(u.add ((l).toNat * 7)).block, (u.add ((l).toNat * 7)).off + 1, none⟩ = some (.slice E1 ((rd_T79 z l).f1).length F1) ∧ w'.cell? ⟨(u.add ((l).toNat * 7)).block, (u.add ((l).toNat * 7)).off + 2, none⟩ = some (.int .i64 ((rd_T79 z l).f2.f0)) ∧ w'.cell? ⟨(u.add ((l).toNat * 7)).block, (u.add ((l).toNat * 7)).off + 3, none⟩ = some (.int .i64 ((rd_T79 z l).f2.f1)) ∧ w'.cell? ⟨(u.add ((l).toNat * 7)).block, (u.add ((l).toNat * 7)).off + 4, none⟩ = some (.slice G1 ((rd_T79 z l).f2.f2).length I1) ∧ w'.cell? ⟨(u.add ((l).toNat * 7)).block, (u.add ((l).toNat * 7)).off + 5, none⟩ = some (.bool ((rd_T79 z l).f3)) ∧ w'.cell? ⟨(u.add ((l).toNat * 7)).block, (u.add ((l).toNat * 7)).off + 6, none⟩ = some (.slice J1 ((rd_T79 z l).f4).length L1)) (ds := []) (bl 10 0) (by kernel_rfl) rfl (by kernel_rfl) ⟨(zX HB D0:), (zX HB C0:), (zX HB B0:), (zX HB y0:), (zX HB x0:), (zX HB t0:), (zX HB q0:), (zX HB e1:), (zX HB d1:), (zX HB b1:), (zX HB a1:), (zX HB X0:), (zX HB V0:), (zX HB U0:)⟩ (fun hHeld => ?_); refine with_tabW laws_eqKernelS.tab6 laws_eqKernelS.bits6 (fun HT_ HW_ => ?_)
   generalize wr.drew = x3 at HB E0 F0 G0 I0 g1 i1 j1 m1 A B E I J L M O T U X a0 b0 d0 hHeld ⊢
   refine zP 0 17 (bl 10 1) HT_ ?_
   refine zP 1 18 (bl 10 3) HT_ ?_
   refine zP 2 19 (bl 10 7) HT_ ?_
   refine zP 4 21 (bl 10 23) HT_ ?_
   refine zP 5 22 (bl 10 55) HT_ ?_
   refine zP 6 23 (bl 10 119) HT_ ?_
   refine zT 3 20 (bl 10 127) rfl rfl HT_ HW_ hHeld (by rintro w' ⟨s0, s1, s2, s3, s4, s5, s6, s7, s8, s9, o2, q2, t2, x2⟩; go_simp; with_reducible rfl) ?_
   refine zT 7 24 (bl 10 255) rfl rfl HT_ HW_ hHeld (by rintro w' ⟨s0, s1, s2, s3, s4, s5, s6, s7, s8, s9, o2, q2, t2, x2⟩; go_simp; with_reducible rfl) ?_
   refine one_ (i := 8) (N := some 25) (bl 10 511) rfl rfl (one_of HT_.out (by kernel_rfl)) (by decide) (fun K hK => ?_)
   refine goes_ Try.func58 (by kernel_rfl) rfl #[.agg #[.slice n1 ((rd_T79 y l).f0).length o1, .slice p1 ((rd_T79 y l).f1).length q1, .int .i64 ((rd_T79 y l).f2.f0), .int .i64 ((rd_T79 y l).f2.f1), .slice t1 ((rd_T79 y l).f2.f2).length x1, .bool ((rd_T79 y l).f3), .slice y1 ((rd_T79 y l).f4).length B1], .agg #[.slice C1 ((rd_T79 z l).f0).length D1, .slice E1 ((rd_T79 z l).f1).length F1, .int .i64 ((rd_T79 z l).f2.f0), .int .i64 ((rd_T79 z l).f2.f1), .slice G1 ((rd_T79 z l).f2.f2).length I1, .bool ((rd_T79 z l).f3), .slice J1 ((rd_T79 z l).f4).length L1]] (by rfl) rfl rfl zL ?_
   refine (laws_eqKernel.calls k1 _ _ ((rd_T79 y l).f0) _ _ ((rd_T79 y l).f1) ((rd_T79 y l).f2.f0) ((rd_T79 y l).f2.f1) _ _ ((rd_T79 y l).f2.f2) ((rd_T79 y l).f3) _ _ ((rd_T79 y l).f4) _ _ ((rd_T79 z l).f0) _ _ ((rd_T79 z l).f1) ((rd_T79 z l).f2.f0) ((rd_T79 z l).f2.f1) _ _ ((rd_T79 z l).f2.f2) ((rd_T79 z l).f3) _ _ ((rd_T79 z l).f4) false _ (zS E0) S1.out (zS F0) T1.out (zS G0) U1.out (zS I0) V1.out (zS g1) X1.out (zS i1) a2.out (zS j1) b2.out (zS m1) c2.out A7.out).mono ?_
   rintro e y3 ⟨rfl, hb⟩
   refine ⟨_, rfl, ?_⟩
   have e2 := z8 hb
   revert e2
   clear HB
   intro HB
   (try clear hb)
   (try clear hb2)
   (try clear hk)
   (try clear hi)
   refine hK.out _ _ ⟨(zX HB D0:), (zX HB C0:), (zX HB B0:), (zX HB y0:), (zX HB x0:), (zX HB t0:), (zX HB q0:), (zX HB e1:), (zX HB d1:), (zX HB b1:), (zX HB a1:), (zX HB X0:), (zX HB V0:), (zX HB U0:)⟩ (fun hHeld => ?_)
   clear hK K
   refine zU 25 ?_
   refine zP 9 26 (bl 10 1023) HT_ ?_
   refine done_ (done_of HT_.out (by kernel_rfl)) ?_
   try go_wp2
   go_ret
   exact ⟨zE, zB⟩
 subst c8
 rw [if_pos rfl] at H
 have H' := zK H
 clear H
 try go_wp2
 have e2 := zK (ze HB.out)
 revert e2
 clear HB
 intro HB
 have M1 : 0 ≤ (l : Int) := z3
 have N1 : l < (y.length : Int) := z3
 obtain ⟨q, n1, o1, p1, q1, t1, x1, y1, B1, g2, A, B, E, I, J, L, M, e0, g0, i0, j0, m0, n0, o0, p0⟩ := at_T79 G2.out l M1 N1
 have q0 := M
 have t0 := L
 have x0 := J
 have y0 := I
 have B0 := E
 have C0 := B
 have D0 := A
 cases g2
 (try replace A := zX HB A)
 (try replace B := zX HB B)
 (try replace E := zX HB E)
 (try replace I := zX HB I)
 (try replace J := zX HB J)
 (try replace L := zX HB L)
 (try replace M := zX HB M)
 have E0 := zK g0
 have S1 := zK e0
 clear g0 e0
 have F0 := zK j0
 have T1 := zK i0
 clear j0 i0
 have G0 := zK n0
 have U1 := zK m0
 clear n0 m0
 have I0 := zK p0
 have V1 := zK o0
 clear p0 o0
 replace M1 := eq_true M1
 replace N1 := eq_true N1
 have O1 : 0 ≤ (l : Int) := z3
 have R1 : l < (z.length : Int) := z3
 obtain ⟨u, C1, D1, E1, F1, G1, I1, J1, L1, i2, O, T, U, X, a0, b0, d0, J0, L0, M0, N0, O0, R0, S0, T0⟩ := at_T79 I2.out l O1 R1
 have U0 := d0
 have V0 := b0
 have X0 := a0
 have a1 := X
 have b1 := U
 have d1 := T
 have e1 := O
 cases i2
 (try replace O := zX HB O)
 (try replace T := zX HB T)
 (try replace U := zX HB U)
 (try replace X := zX HB X)
 (try replace a0 := zX HB a0)
 (try replace b0 := zX HB b0)
 (try replace d0 := zX HB d0)
 have g1 := zK L0
 have X1 := zK J0
 clear L0 J0
 have i1 := zK N0
 have a2 := zK M0
 clear N0 M0
 have j1 := zK R0
 have b2 := zK O0
 clear R0 O0
 have m1 := zK T0
 have c2 := zK S0
 clear T0 S0
 replace O1 := eq_true O1
 replace R1 := eq_true R1
 refine start_ (n := 10) (S := fun w' => w'.cell? (q.add ((l).toNat * 7)) = some (.slice n1 ((rd_T79 y l).f0).length o1) ∧ w'.cell? ⟨(q.add ((l).toNat * 7)).block, (q.add ((l).toNat * 7)).off + 1, none⟩ = some (.slice p1 ((rd_T79 y l).f1).length q1) ∧ w'.cell? ⟨(q.add ((l).toNat * 7)).block, (q.add ((l).toNat * 7)).off + 2, none⟩ = some (.int .i64 ((rd_T79 y l).f2.f0)) ∧ w'.cell? ⟨(q.add ((l).toNat * 7)).block, (q.add ((l).toNat * 7)).off + 3, none⟩ = some (.int .i64 ((rd_T79 y l).f2.f1)) ∧ w'.cell? ⟨(q.add ((l).toNat * 7)).block, (q.add ((l).toNat * 7)).off + 4, none⟩ = some (.slice t1 ((rd_T79 y l).f2.f2).length x1) ∧ w'.cell? ⟨(q.add ((l).toNat * 7)).block, (q.add ((l).toNat * 7)).off + 5, none⟩ = some (.bool ((rd_T79 y l).f3)) ∧ w'.cell? ⟨(q.add ((l).toNat * 7)).block, (q.add ((l).toNat * 7)).off + 6, none⟩ = some (.slice y1 ((rd_T79 y l).f4).length B1) ∧ w'.cell? (u.add ((l).toNat * 7)) = some (.slice C1 ((rd_T79 z l).f0).length D1) ∧ w'.cell? ⟨(u.add ((l).toNat * 7)).block, (u.add ((l).toNat * 7)).off + 1, none⟩ = some (.slice E1 ((rd_T79 z l).f1).length F1) ∧ w'.cell? ⟨(u.add ((l).toNat * 7)).block, (u.add ((l).toNat * 7)).off + 2, none⟩ = some (.int .i64 ((rd_T79 z l).f2.f0)) ∧ w'.cell? ⟨(u.add ((l).toNat * 7)).block, (u.add ((l).toNat * 7)).off + 3, none⟩ = some (.int .i64 ((rd_T79 z l).f2.f1)) ∧ w'.cell? ⟨(u.add ((l).toNat * 7)).block, (u.add ((l).toNat * 7)).off + 4, none⟩ = some (.slice G1 ((rd_T79 z l).f2.f2).length I1) ∧ w'.cell? ⟨(u.add ((l).toNat * 7)).block, (u.add ((l).toNat * 7)).off + 5, none⟩ = some (.bool ((rd_T79 z l).f3)) ∧ w'.cell? ⟨(u.add ((l).toNat * 7)).block, (u.add ((l).toNat * 7)).off + 6, none⟩ = some (.slice J1 ((rd_T79 z l).f4).length L1)) (ds := []) (bl 10 0) (by kernel_rfl) rfl (by kernel_rfl) ⟨(zX HB D0:), (zX HB C0:), (zX HB B0:), (zX HB y0:), (zX HB x0:), (zX HB t0:), (zX HB q0:), (zX HB e1:), (zX HB d1:), (zX HB b1:), (zX HB a1:), (zX HB X0:), (zX HB V0:), (zX HB U0:)⟩ (fun hHeld => ?_); refine with_tabW laws_eqKernelS.tab6 laws_eqKernelS.bits6 (fun HT_ HW_ => ?_)
 generalize wr.drew = w9 at HB E0 F0 G0 I0 g1 i1 j1 m1 A B E I J L M O T U X a0 b0 d0 hHeld ⊢
 refine zP 0 17 (bl 10 1) HT_ ?_
 refine zP 1 18 (bl 10 3) HT_ ?_
 refine zP 2 19 (bl 10 7) HT_ ?_
 refine zP 4 21 (bl 10 23) HT_ ?_
 refine zP 5 22 (bl 10 55) HT_ ?_
 refine zP 6 23 (bl 10 119) HT_ ?_
 refine zT 3 20 (bl 10 127) rfl rfl HT_ HW_ hHeld (by rintro w' ⟨s0, s1, s2, s3, s4, s5, s6, s7, s8, s9, o2, q2, t2, x2⟩; go_simp; with_reducible rfl) ?_
 refine zT 7 24 (bl 10 255) rfl rfl HT_ HW_ hHeld (by rintro w' ⟨s0, s1, s2, s3, s4, s5, s6, s7, s8, s9, o2, q2, t2, x2⟩; go_simp; with_reducible rfl) ?_
 refine one_ (i := 8) (N := some 25) (bl 10 511) rfl rfl (one_of HT_.out (by kernel_rfl)) (by decide) (fun K hK => ?_)
 refine goes_ Try.func58 (by kernel_rfl) rfl #[.agg #[.slice n1 ((rd_T79 y l).f0).length o1, .slice p1 ((rd_T79 y l).f1).length q1, .int .i64 ((rd_T79 y l).f2.f0), .int .i64 ((rd_T79 y l).f2.f1), .slice t1 ((rd_T79 y l).f2.f2).length x1, .bool ((rd_T79 y l).f3), .slice y1 ((rd_T79 y l).f4).length B1], .agg #[.slice C1 ((rd_T79 z l).f0).length D1, .slice E1 ((rd_T79 z l).f1).length F1, .int .i64 ((rd_T79 z l).f2.f0), .int .i64 ((rd_T79 z l).f2.f1), .slice G1 ((rd_T79 z l).f2.f2).length I1, .bool ((rd_T79 z l).f3), .slice J1 ((rd_T79 z l).f4).length L1]] (by rfl) rfl rfl zL ?_
 refine (laws_eqKernel.calls k1 _ _ ((rd_T79 y l).f0) _ _ ((rd_T79 y l).f1) ((rd_T79 y l).f2.f0) ((rd_T79 y l).f2.f1) _ _ ((rd_T79 y l).f2.f2) ((rd_T79 y l).f3) _ _ ((rd_T79 y l).f4) _ _ ((rd_T79 z l).f0) _ _ ((rd_T79 z l).f1) ((rd_T79 z l).f2.f0) ((rd_T79 z l).f2.f1) _ _ ((rd_T79 z l).f2.f2) ((rd_T79 z l).f3) _ _ ((rd_T79 z l).f4) true _ (zS E0) S1.out (zS F0) T1.out (zS G0) U1.out (zS I0) V1.out (zS g1) X1.out (zS i1) a2.out (zS j1) b2.out (zS m1) c2.out A7.out).mono ?_
 rintro e A3 ⟨rfl, hb⟩
 refine ⟨_, rfl, ?_⟩
 have e2 := z8 hb
 revert e2
 clear HB
 intro HB
 (try clear hb)
 (try clear hb2)
 (try clear hk)
 (try clear hi)
 refine hK.out _ _ ⟨(zX HB D0:), (zX HB C0:), (zX HB B0:), (zX HB y0:), (zX HB x0:), (zX HB t0:), (zX HB q0:), (zX HB e1:), (zX HB d1:), (zX HB b1:), (zX HB a1:), (zX HB X0:), (zX HB V0:), (zX HB U0:)⟩ (fun hHeld => ?_)
 clear hK K
 refine zU 25 ?_
 refine zP 9 26 (bl 10 1023) HT_ ?_
 refine done_ (done_of HT_.out (by kernel_rfl)) ?_
 try go_wp2
 go_roundg k1
 case measure => have := J2.out; omega
 case rel => exact ⟨(wrap64 (l + 1)), zR, H', ⟨by have := J2.out; omega⟩, ⟨zB⟩⟩
def laws_eqNest.f (k : Nat) (l : List Int) (q : List Int) (u : List (S71)) (y : List (S79)) (z : List Int) (A : List Int) (B : List Int) (E : List (S71)) (I : List (S79)) (J : List Int) : Option (Bool) := (laws_eqIntS.f k l A).bind fun L => (if L = true then ((laws_eqIntS.f k q B).bind fun M => (if M = true then ((laws_eqFixS.f k u E).bind fun O => (if O = true then ((laws_eqKernelS.f k y I).bind fun T => (if T = true then ((laws_eqIntS.f k z J).bind fun U => (if U = true then (some true) else (some false))) else (some false))) else (some false))) else (some false))) else (some false))
theorem laws_eqNest.calls (k) (X) (a0) (u : List Int) (b0) (c0) (y : List Int) (d0) (e0) (z : List (S71)) (f0) (g0) (A : List (S79)) (i0) (j0) (B : List Int) (l0) (m0) (E : List Int) (n0) (o0) (I : List Int) (p0) (q0) (J : List (S71)) (s0) (t0) (L : List (S79)) (x0) (y0) (M : List Int) (r : Bool) (w) (J0 : Kd.C (Kd.int .i64) w X u.length u) (L0 : u.length ≤ a0) (M0 : Kd.C (Kd.int .i64) w b0 y.length y) (N0 : y.length ≤ c0) (O0 : Kd.C k71 w d0 z.length z) (R0 : z.length ≤ e0) (S0 : Kd.C k79 w f0 A.length A) (T0 : A.length ≤ g0) (U0 : Kd.C (Kd.int .i64) w i0 B.length B) (V0 : B.length ≤ j0) (X0 : Kd.C (Kd.int .i64) w l0 E.length E) (a1 : E.length ≤ m0) (b1 : Kd.C (Kd.int .i64) w n0 I.length I) (c1 : I.length ≤ o0) (d1 : Kd.C k71 w p0 J.length J) (e1 : J.length ≤ q0) (f1 : Kd.C k79 w s0 L.length L) (g1 : L.length ≤ t0) (i1 : Kd.C (Kd.int .i64) w x0 M.length M) (j1 : M.length ≤ y0) (h : laws_eqNest.f k u y z A B E I J L M = some r) :
 Calls Try.prog 15 #[.agg #[.slice X u.length a0, .slice b0 y.length c0, .slice d0 z.length e0, .slice f0 A.length g0, .slice i0 B.length j0], .agg #[.slice l0 E.length m0, .slice n0 I.length o0, .slice p0 J.length q0, .slice s0 L.length t0, .slice x0 M.length y0]] w fun e w' => e = .returned (.bool r) ∧ Below w.heap.size w w' := by
 have X3 := Try.underlying34
 have s1 := zK J0
 have t1 := zK L0
 clear J0 L0
 have x1 := zK M0
 have y1 := zK N0
 clear M0 N0
 have A1 := zK O0
 have B1 := zK R0
 clear O0 R0
 have C1 := zK S0
 have D1 := zK T0
 clear S0 T0
 have E1 := zK U0
 have F1 := zK V0
 clear U0 V0
 have G1 := zK X0
 have I1 := zK a1
 clear X0 a1
 have J1 := zK b1
 have L1 := zK c1
 clear b1 c1
 have M1 := zK d1
 have N1 := zK e1
 clear d1 e1
 have O1 := zK f1
 have R1 := zK g1
 clear f1 g1
 have S1 := zK i1
 have T1 := zK j1
 clear i1 j1
 have HB := zK (Below.refl w.heap.size w)
 have H : ((laws_eqIntS.f k u E).bind fun D0 => (if D0 = true then ((laws_eqIntS.f k y I).bind fun E0 => (if E0 = true then ((laws_eqFixS.f k z J).bind fun F0 => (if F0 = true then ((laws_eqKernelS.f k A L).bind fun G0 => (if G0 = true then ((laws_eqIntS.f k B M).bind fun I0 => (if I0 = true then (some true) else (some false))) else (some false))) else (some false))) else (some false))) else (some false))) = some r := h
 clear h
 replace H := z6 H
 obtain ⟨D0, U1, H⟩ := H
 have A3 := zK U1
 clear U1
 rcases zN (D0 = true) with c4 | c4
 replace c4 := Bool.eq_false_iff.mpr c4
 subst c4
 rw [if_neg (show ¬ (false = true) by decide)] at H
 obtain rfl := z5 H
 rotate_left
 subst c4
 rw [if_pos rfl] at H
 replace H := z6 H
 obtain ⟨E0, V1, H⟩ := H
 have A5 := zK V1
 clear V1
 rcases zN (E0 = true) with c6 | c6
 replace c6 := Bool.eq_false_iff.mpr c6
 subst c6
 rw [if_neg (show ¬ (false = true) by decide)] at H
 obtain rfl := z5 H
 rotate_left
 subst c6
 rw [if_pos rfl] at H
 replace H := z6 H
 obtain ⟨F0, X1, H⟩ := H
 have A7 := zK X1
 clear X1
 rcases zN (F0 = true) with c8 | c8
 replace c8 := Bool.eq_false_iff.mpr c8
 subst c8
 rw [if_neg (show ¬ (false = true) by decide)] at H
 obtain rfl := z5 H
 rotate_left
 subst c8
 rw [if_pos rfl] at H
 replace H := z6 H
 obtain ⟨G0, a2, H⟩ := H
 have A9 := zK a2
 clear a2
 rcases zN (G0 = true) with A0 | A0
 replace A0 := Bool.eq_false_iff.mpr A0
 subst A0
 rw [if_neg (show ¬ (false = true) by decide)] at H
 obtain rfl := z5 H
 rotate_left
 subst A0
 rw [if_pos rfl] at H
 replace H := z6 H
 obtain ⟨I0, p1, H⟩ := H
 have G3 := zK p1
 clear p1
 by_cases l1 : I0 = true
 subst l1
 rw [if_pos rfl] at H
 obtain rfl := z5 H
 rotate_left
 replace l1 := Bool.eq_false_iff.mpr l1
 subst l1
 rw [if_neg (show ¬ (false = true) by decide)] at H
 obtain rfl := z5 H
 all_goals go_enter Try.func15, Try.ntmps15
 all_goals go_wp2_with (first | ((with_reducible refine gd 2 rfl ?_); refine zJ 2 #[.slice X u.length a0, .slice b0 y.length c0, .slice d0 z.length e0, .slice f0 A.length g0, .slice i0 B.length j0] 34 ?_; intro M3 hg f4 hbox hb; have O := z8 hb; have T := zK (hbox); have U := z9 hg; have q1 := z9 hg; revert O T U q1; clear HB; intro HB l N3 O3; clear hb hbox hg) | ((with_reducible refine gd 3 rfl ?_); refine zJ 3 #[.slice l0 E.length m0, .slice n0 I.length o0, .slice p0 J.length q0, .slice s0 L.length t0, .slice x0 M.length y0] 34 ?_; intro R3 hg g4 hbox hb; have O := z7 l hb; have T := z8 hb; have U := zK (hbox); have q1 := z9 hg; have I3 := z9 hg; have J3 := zHH hg l; have L3 := zGG hg l; revert O T U q1 I3 J3 L3; clear l HB; intro l HB q S3 T3 B0 C0; clear hb hbox hg; have U3 := B0.out; have V3 := C0.out; obtain ⟨b2, c2, d2, e2, f2, g2, i2, j2, l2, m2⟩ := zc5 l; obtain ⟨n2, o2, p2, q2, s2, t2, x2, y2, A2, B2⟩ := zc5 q) | ((with_reducible refine gc 27 rfl ?_); refine zF 9 Try.func27 #[.slice X u.length a0, .slice l0 E.length m0] rfl zL ?_; refine (laws_eqIntS.calls k _ _ u _ _ E _ _ (zS s1) t1.out (zS G1) I1.out A3.out).mono ?_; rintro e w' ⟨rfl, ⟨nd, rfl⟩⟩; refine ⟨_, rfl, ?_⟩) | ((with_reducible refine gc 27 rfl ?_); refine zF 15 Try.func27 #[.slice b0 y.length c0, .slice n0 I.length o0] rfl zL ?_; refine (laws_eqIntS.calls k _ _ y _ _ I _ _ (zS x1) y1.out (zS J1) L1.out A5.out).mono ?_; rintro e w' ⟨rfl, ⟨nd, rfl⟩⟩; refine ⟨_, rfl, ?_⟩) | ((with_reducible refine gc 33 rfl ?_); refine zF 21 Try.func33 #[.slice d0 z.length e0, .slice p0 J.length q0] rfl zL ?_; refine (laws_eqFixS.calls k _ _ z _ _ J _ _ (zS A1) B1.out (zS M1) N1.out A7.out).mono ?_; rintro e i4 ⟨rfl, hb⟩; refine ⟨_, rfl, ?_⟩; have O := z7 l hb; have T := z7 q hb; have U := z8 hb; revert O T U; clear l q HB; intro l q HB; obtain ⟨C2, D2, E2, F2, G2, I2, J2, L2, M2, N2⟩ := zc5 l; obtain ⟨O2, R2, T2, U2, V2, X2, a3, b3, c3, d3⟩ := zc5 q) | ((with_reducible refine gc 34 rfl ?_); refine zF 27 Try.func34 #[.slice f0 A.length g0, .slice s0 L.length t0] rfl zL ?_; refine (laws_eqKernelS.calls k _ _ A _ _ L _ _ (zS C1) D1.out (zS O1) R1.out A9.out).mono ?_; rintro e j4 ⟨rfl, hb⟩; refine ⟨_, rfl, ?_⟩; have O := z7 l hb; have T := z7 q hb; have U := z8 hb; revert O T U; clear l q HB; intro l q HB; obtain ⟨e3, f3, g3, i3, j3, l3, m3, n3, o3, p3⟩ := zc5 l; obtain ⟨q3, s3, t3, x3, y3, B3, C3, D3, E3, F3⟩ := zc5 q) | ((with_reducible refine gc 27 rfl ?_); refine zF 33 Try.func27 #[.slice i0 B.length j0, .slice x0 M.length y0] rfl zL ?_; refine (laws_eqIntS.calls k _ _ B _ _ M _ _ (zS E1) F1.out (zS S1) T1.out G3.out).mono ?_; rintro e w' ⟨rfl, ⟨nd, rfl⟩⟩; refine ⟨_, rfl, ?_⟩))
 all_goals go_ret
 all_goals exact ⟨zE, zB⟩
end Go.Proofs.Ytmcboiffbcnalaa.PFnExactLives
