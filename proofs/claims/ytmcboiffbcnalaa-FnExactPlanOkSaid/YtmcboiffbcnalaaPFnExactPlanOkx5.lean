-- Printed out of the translation by this session's own turned copy of a printer; Lean checks it.
import Derived.Test.YtmcboiffbcnalaaPFnExactPlanOkx0
import Derived.Test.YtmcboiffbcnalaaPFnExactPlanOkx2
import Derived.Test.YtmcboiffbcnalaaPFnExactPlanOkx3
import Derived.Test.YtmcboiffbcnalaaPFnExactPlanOkx4
namespace Go.Proofs.Ytmcboiffbcnalaa.PFnExactPlanOk
open Go.RowKit Go.Proofs.YtmcboiffbcnalaaW.PrintWords Go.Proofs.YtmcboiffbcnalaaW.PrintLast Go.Proofs.YtmcboiffbcnalaaW.PrintMore
attribute [local go_sem] max2_int min2_int max_two min_two max_three min_three max_four min_four
set_option linter.unusedVariables false
set_option linter.unusedSimpArgs false
set_option maxHeartbeats 8000000
set_option maxRecDepth 100000
mutual
def spec_l11Kernel.j0 : Nat → List Int → Bool → List Int → List (S76) → Int → Int → List Int → Bool → List (S122) → Option (Bool)
 | 0, _, _, _, _, _, _, _, _, _ => none
 | k + 1, B, A, a, l, q, u, x, y, z => if A = true then (some false) else (spec_l11Kernel.l0 k B 0 a l q u x y z)
def spec_l11Kernel.l0 : Nat → List Int → Int → List Int → List (S76) → Int → Int → List Int → Bool → List (S122) → Option (Bool)
 | 0, _, _, _, _, _, _, _, _, _ => none
 | k + 1, D, u, l, a, q, x, y, z, A => if u < (a.length : Int) then (if 0 ≤ u then ((spec_l11Access.f k ((rd_T76 a u).f0) ((rd_T76 a u).f1) ((rd_T76 a u).f2) l D).bind fun B => (if B = true then (if ((rd_T76 a u).f0) = q then (some false) else (spec_l11Kernel.l0 k D (wrap64 (u + 1)) l a q x y z A)) else (some false))) else (none)) else (some true)
end
def spec_l11Kernel.f (k : Nat) (a : List Int) (l : List (S76)) (q : Int) (u : Int) (x : List Int) (z : Bool) (y : List (S122)) (A : List Int) : Option (Bool) := if (a.length : Int) > 12 then (spec_l11Kernel.j0 k A true a l q u x z y) else (if (l.length : Int) > 30 then (spec_l11Kernel.j0 k A true a l q u x z y) else ((spec_l11Product.f k a).bind fun B => (if B = 0 then (spec_l11Kernel.j0 k A true a l q u x z y) else ((spec_l11Code.f k y (l.length : Int)).bind fun D => (if D = true then ((spec_l11Access.f k q u x a A).bind fun E => (spec_l11Kernel.j0 k A (!E) a l q u x z y)) else (spec_l11Kernel.j0 k A true a l q u x z y))))))
def spec_l11Kernel.T6 : Bool × List (List Nat × List Nat) := (true, [([], []), ([0], [0]), ([], []), ([1, 2], [1, 2]), ([3], [3]), ([], []), ([5], [5]), ([], []), ([4, 6, 7], [4, 6, 7]), ([8], [8]), ([9, 8], [9]), ([10], [10]), ([11, 10], [10, 11]), ([10], [10]), ([12, 13, 10], [10, 12, 13]), ([14, 10], [10, 14]), ([15, 10], [10, 15]), ([10], [10]), ([17, 10], [10, 17]), ([18, 10], [10, 18]), ([16, 19, 10], [10, 16, 19]), ([10, 20], [10, 20])])
def spec_l11Kernel.B6 : List Nat := [0, 1, 0, 7, 15, 0, 32, 0, 255, 511, 1023, 2047, 4095, 2047, 16383, 32767, 65535, 2047, 133119, 395263, 1048575, 2097151]
theorem spec_l11Kernel.tab6 : rtab .any (opsOf Try.f41 6) = spec_l11Kernel.T6 := by kernel_rfl
theorem spec_l11Kernel.bits6 : waitsOk spec_l11Kernel.T6.2 spec_l11Kernel.B6 = true := by kernel_rfl
theorem spec_l11Kernel.calls (k) (n0) (o0) (x : List Int) (x1) (G0) (q : List (S76)) (I) (J) (I0) (J0) (E : List Int) (T : Bool) (L0) (M0) (D : List (S122)) (A1) (c1) (l1 : List Int) (r : Bool) (w) (t4 : Kd.C (Kd.int .i64) w n0 x.length x) (x4 : x.length ≤ o0) (y4 : Kd.C k76 w x1 q.length q) (A4 : q.length ≤ G0) (B4 : Kd.C (Kd.int .i64) w I0 E.length E) (C4 : E.length ≤ J0) (D4 : Kd.C k122 w L0 D.length D) (E4 : D.length ≤ M0) (f5 : Kd.C (Kd.int .i64) w A1 l1.length l1) (g5 : l1.length ≤ c1) (h : spec_l11Kernel.f k x q I J E T D l1 = some r) :
 Calls Try.prog 41 #[.agg #[.slice n0 x.length o0, .slice x1 q.length G0, .int .i64 I, .int .i64 J, .slice I0 E.length J0, .bool T, .slice L0 D.length M0], .slice A1 l1.length c1] w fun e w' => e = .returned (.bool r) ∧ Below w.heap.size w w' := by
 have f7 := Try.underlying79
 have g7 := Try.underlying76
 have E0 := zK t4
 have F0 := zK x4
 clear t4 x4
 have V0 := zK y4
 have a7 := zK A4
 clear y4 A4
 have X4 := zK B4
 have a5 := zK C4
 clear B4 C4
 have F4 := zK D4
 have G4 := zK E4
 clear D4 E4
 have I4 := zK f5
 have J4 := zK g5
 clear f5 g5
 have HB := zK (Below.refl w.heap.size w)
 have H : (if (x.length : Int) > 12 then (spec_l11Kernel.j0 k l1 true x q I J E T D) else (if (q.length : Int) > 30 then (spec_l11Kernel.j0 k l1 true x q I J E T D) else ((spec_l11Product.f k x).bind fun p1 => (if p1 = 0 then (spec_l11Kernel.j0 k l1 true x q I J E T D) else ((spec_l11Code.f k D (q.length : Int)).bind fun m4 => (if m4 = true then ((spec_l11Access.f k I J E x l1).bind fun m3 => (spec_l11Kernel.j0 k l1 (!m3) x q I J E T D)) else (spec_l11Kernel.j0 k l1 true x q I J E T D))))))) = some r := h
 clear h
 have R4 := zK H
 clear H
 go_enter Try.func41, Try.ntmps41
 go_upto_region 1 with (first | ((with_reducible refine gd 2 rfl ?_); (try (refine gate_guard (by rfl) ?_; dsimp only)); refine zJ 2 #[.slice n0 x.length o0, .slice x1 q.length G0, .int .i64 I, .int .i64 J, .slice I0 E.length J0, .bool T, .slice L0 D.length M0] 79 ?_; intro y hg w4 hbox hb; have e0 := z8 hb; have g0 := zK (hbox); have T6 := z9 hg; have U6 := z9 hg; revert e0 g0 T6 U6; clear HB; intro HB a b7 d7; clear hb hbox hg))
 (try simp only [Act.put, zq1, zq2, zq3])
 go_cut [39] (fun v39 wc => ∃ (kq : Nat) (t1 : Bool), v39 = .bool t1 ∧ Aside0 (spec_l11Kernel.j0 kq l1 t1 x q I J E T D = some r) ∧ Aside0 (kq ≤ k) ∧ Aside0 (wc.heap[y]? = some (.cells #[(.slice n0 x.length o0), (.slice x1 q.length G0), .int .i64 I, .int .i64 J, (.slice I0 E.length J0), .bool T, (.slice L0 D.length M0)] 79 (0, 0))) ∧ Aside0 (Below w.heap.size w wc))
 case first =>
  have H := R4.out
  clear R4
  by_cases c5 : (x.length : Int) > 12
  · rw [if_pos c5] at H
    have S0 := z1 c5
    have n4 : decide (12 < x.length) = true := z1 (by omega)
    clear c5
    (first | rw [S0] | (simp only [i64_w, i32_w]; rw [S0]) | skip)
    have H' := zK H
    clear H
    obtain ⟨t3, x3, y3, A3, B3, C3, D3, E3, F3, G3, I3, J3, L3, M3⟩ := zc7 a
    go_wp2
    go_meet
    case rel => exact ⟨_, (true), zR, H', ⟨by first | omega | exact Nat.le_refl _⟩, ⟨zM a⟩, ⟨zB⟩⟩
  rw [if_neg c5] at H
  have S0 := z2 c5
  have n4 : decide (12 < x.length) = false := z2 (by omega)
  clear c5
  (first | rw [S0] | (simp only [i64_w, i32_w]; rw [S0]) | skip)
  by_cases c7 : (q.length : Int) > 30
  · rw [if_pos c7] at H
    have o4 := z1 c7
    have p4 : decide (30 < q.length) = true := z1 (by omega)
    clear c7
    have H' := zK H
    clear H
    obtain ⟨O3, R3, S3, T3, U3, V3, X3, a4, b4, d4, e4, f4, g4, i4⟩ := zc7 a
    go_wp2
    go_meet
    case rel => exact ⟨_, (true), zR, H', ⟨by first | omega | exact Nat.le_refl _⟩, ⟨zM a⟩, ⟨zB⟩⟩
  rw [if_neg c7] at H
  have o4 := z2 c7
  have p4 : decide (30 < q.length) = false := z2 (by omega)
  clear c7
  replace H := z6 H
  obtain ⟨p1, i5, H⟩ := H
  have A9 := zK i5
  clear i5
  by_cases X0 : p1 = 0
  · rw [if_pos X0] at H
    have n3 := beq_iff_eq.mpr X0
    have o3 := bne_eq_false_iff_eq.mpr X0
    clear X0
    have H' := zK H
    clear H
    obtain ⟨E1, F1, G1, I1, J1, L1, M1, N1, O1, R1, S1, T1, U1, V1⟩ := zc7 a
    go_wp2_with (first | (go_at_call 42; (with_reducible refine (spec_l11Product.calls k _ _ x p1 _ ?side1 ?side2 A9.out).mono ?_); (case side1 => exact zS E0); (case side2 => exact F0.out); rintro e w' ⟨rfl, ⟨nd, rfl⟩⟩))
    go_meet
    case rel => exact ⟨_, (true), zR, H', ⟨by first | omega | exact Nat.le_refl _⟩, ⟨zM a⟩, ⟨zB⟩⟩
  rw [if_neg X0] at H
  have n3 := beq_eq_false_iff_ne.mpr X0
  have o3 := bne_iff_ne.mpr X0
  replace H := z6 H
  obtain ⟨m4, S4, H⟩ := H
  have j5 := zK S4
  clear S4
  by_cases X1 : m4 = true
  rotate_left
  · replace X1 := Bool.eq_false_iff.mpr X1
    subst X1
    rw [if_neg (show ¬ (false = true) by decide)] at H
    have H' := zK H
    clear H
    obtain ⟨a2, b2, d2, e2, g2, i2, j2, l2, m2, n2, o2, q2, t2, x2⟩ := zc7 a
    go_wp2_with (first | (go_at_call 42; (with_reducible refine (spec_l11Product.calls k _ _ x p1 _ ?side1 ?side2 A9.out).mono ?_); (case side1 => exact zS E0); (case side2 => exact F0.out); rintro e w' ⟨rfl, ⟨nd, rfl⟩⟩) | (go_at_call 61; (with_reducible refine (spec_l11Code.calls k _ _ D (q.length : Int) false _ ?side1 ?side2 j5.out).mono ?_); (case side1 => exact zS F4); (case side2 => exact G4.out); rintro e j7 ⟨rfl, hb⟩; have e0 := z7 a hb; have g0 := z8 hb; revert e0 g0; clear a HB; intro a HB))
    go_meet
    case rel => exact ⟨_, (true), zR, H', ⟨by first | omega | exact Nat.le_refl _⟩, ⟨zM a⟩, ⟨zB⟩⟩
  subst X1
  rw [if_pos rfl] at H
  replace H := z6 H
  obtain ⟨m3, T4, H⟩ := H
  have V6 := zK T4
  clear T4
  have H' := zK H
  clear H
  obtain ⟨y2, A2, B2, C2, D2, E2, F2, G2, I2, J2, L2, M2, N2, O2⟩ := zc7 a
  go_wp2_with (first | (go_at_call 42; (with_reducible refine (spec_l11Product.calls k _ _ x p1 _ ?side1 ?side2 A9.out).mono ?_); (case side1 => exact zS E0); (case side2 => exact F0.out); rintro e w' ⟨rfl, ⟨nd, rfl⟩⟩) | (go_at_call 61; (with_reducible refine (spec_l11Code.calls k _ _ D (q.length : Int) true _ ?side1 ?side2 j5.out).mono ?_); (case side1 => exact zS F4); (case side2 => exact G4.out); rintro e l7 ⟨rfl, hb⟩; have e0 := z7 a hb; have g0 := z8 hb; revert e0 g0; clear a HB; intro a HB; obtain ⟨R2, T2, U2, V2, X2, a3, b3, c3, d3, e3, f3, g3, i3, j3⟩ := zc7 a) | (go_at_call 62; (with_reducible refine (spec_l11Access.calls k I J _ _ E _ _ x _ _ l1 m3 _ ?side1 ?side2 ?side3 ?side4 ?side5 ?side6 V6.out).mono ?_); (case side1 => exact zS X4); (case side2 => exact a5.out); (case side3 => exact zS E0); (case side4 => exact F0.out); (case side5 => exact zS I4); (case side6 => exact J4.out); rintro e m7 ⟨rfl, hb⟩; have e0 := z7 a hb; have g0 := z8 hb; revert e0 g0; clear a HB; intro a HB))
  go_meet
  case rel => exact ⟨_, (!m3), zR, H', ⟨by first | omega | exact Nat.le_refl _⟩, ⟨zM a⟩, ⟨zB⟩⟩
 case rest =>
  clear R4
  try clear c1
  try clear p2
  try clear c4
  try clear c5
  try clear S0
  try clear n4
  try clear c7
  try clear o4
  try clear p4
  try clear X0
  try clear n3
  try clear o3
  try clear X1
  try clear E1 F1 G1 I1 J1 L1 M1 N1 O1 R1 S1 T1 U1 V1
  try clear y2 A2 B2 C2 D2 E2 F2 G2 I2 J2 L2 M2 N2 O2
  try clear R2 T2 U2 V2 X2 a3 b3 c3 d3 e3 f3 g3 i3 j3
  try clear a2 b2 d2 e2 g2 i2 j2 l2 m2 n2 o2 q2 t2 x2
  try clear t3 x3 y3 A3 B3 C3 D3 E3 F3 G3 I3 J3 L3 M3
  try clear O3 R3 S3 T3 U3 V3 X3 a4 b4 d4 e4 f4 g4 i4
  obtain ⟨kq, t1, rfl, HA, l5, a, HB⟩ := hcut
  cases kq with
  | zero => exact absurd HA.out (by simp [spec_l11Kernel.j0])
  | succ m5 =>
   have H := HA.out
   clear HA
   simp only [spec_l11Kernel.j0] at H
   by_cases j4 : t1 = true
   · subst j4
     rw [if_pos rfl] at H
     obtain rfl := z5 H
     go_wp2
     go_ret
     exact ⟨zE, zB⟩
   replace j4 := Bool.eq_false_iff.mpr j4
   subst j4
   rw [if_neg (show ¬ (false = true) by decide)] at H
   have H' := zK H
   clear H
   go_wp2
   go_loopg [5] m5 (fun kq v5 w' => ∃ (l : Int), v5 = .int .i64 l ∧ Aside0 (spec_l11Kernel.l0 kq l1 l x q I J E T D = some r) ∧ Aside0 (kq ≤ m5) ∧ Aside0 (w'.heap[y]? = some (.cells #[(.slice n0 x.length o0), (.slice x1 q.length G0), .int .i64 I, .int .i64 J, (.slice I0 E.length J0), .bool T, (.slice L0 D.length M0)] 79 (0, 0))) ∧ Aside0 (Below w.heap.size w w'))
   case atStart => exact ⟨(0), zR, H', ⟨Nat.le_refl _⟩, ⟨zM a⟩, ⟨zB⟩⟩
   clear H'
   try clear c1
   try clear c2
   try clear p2
   try clear c4
   try clear c5
   try clear S0
   try clear n4
   try clear c7
   try clear o4
   try clear p4
   try clear X0
   try clear n3
   try clear o3
   try clear X1
   try clear j4
   try clear E1 F1 G1 I1 J1 L1 M1 N1 O1 R1 S1 T1 U1 V1
   try clear y2 A2 B2 C2 D2 E2 F2 G2 I2 J2 L2 M2 N2 O2
   try clear R2 T2 U2 V2 X2 a3 b3 c3 d3 e3 f3 g3 i3 j3
   try clear a2 b2 d2 e2 g2 i2 j2 l2 m2 n2 o2 q2 t2 x2
   try clear t3 x3 y3 A3 B3 C3 D3 E3 F3 G3 I3 J3 L3 M3
   try clear O3 R3 S3 T3 U3 V3 X3 a4 b4 d4 e4 f4 g4 i4
   try clear p2
   obtain ⟨l, rfl, HA, n5, a, HB⟩ := hrel
   rcases gk with _ | k2
   · exact absurd HA.out (by simp [spec_l11Kernel.l0])
   have H := HA.out
   clear HA
   simp only [spec_l11Kernel.l0] at H
   by_cases l3 : l < (q.length : Int)
   rotate_left
   · rw [if_neg l3] at H
     have b5 := z2 l3
     clear l3
     obtain rfl := z5 H
     obtain ⟨q5, t5, x5, y5, A5, B5, C5, D5, E5, F5, G5, I5, J5, L5⟩ := zc7 a
     go_wp2
     go_ret
     exact ⟨zE, zB⟩
   rw [if_pos l3] at H
   have b5 := z1 l3
   clear l3
   by_cases L4 : 0 ≤ l
   rotate_left
   · rw [if_neg L4] at H
     exact absurd H (by simp)
   rw [if_pos L4] at H
   have e7 := z1 L4
   clear L4
   replace H := z6 H
   obtain ⟨p5, U4, H⟩ := H
   have V4 := zK U4
   clear U4
   by_cases M4 : p5 = true
   rotate_left
   · replace M4 := Bool.eq_false_iff.mpr M4
     subst M4
     rw [if_neg (show ¬ (false = true) by decide)] at H
     obtain rfl := z5 H
     obtain ⟨M5, N5, O5, R5, S5, T5, U5, V5, X5, a6, b6, c6, d6, e6⟩ := zc7 a
     try go_wp2
     have e0 := zK (zd a.out)
     have g0 := zK (ze HB.out)
     revert e0 g0
     clear a HB
     intro a HB
     have p0 : 0 ≤ (l : Int) := z3
     have q0 : l < (q.length : Int) := z3
     obtain ⟨u, i0, m0, y1, z, A, B, U, X⟩ := at_T76 V0.out l p0 q0
     have a0 := B
     have b0 := A
     have c0 := z
     cases y1
     (try replace z := zX HB z)
     (try replace A := zX HB A)
     (try replace B := zX HB B)
     have d0 := zK X
     have x0 := zK U
     clear X U
     replace p0 := eq_true p0
     replace q0 := eq_true q0
     refine start_ (n := 22) (S := fun w' => w'.cell? ⟨y, 0, none⟩ = some (.slice n0 x.length o0) ∧ w'.cell? ⟨y, 1, none⟩ = some (.slice (some u) q.length G0) ∧ w'.cell? ⟨y, 2, none⟩ = some (.int .i64 I) ∧ w'.cell? ⟨y, 3, none⟩ = some (.int .i64 J) ∧ w'.cell? ⟨y, 4, none⟩ = some (.slice I0 E.length J0) ∧ w'.cell? ⟨y, 5, none⟩ = some (.bool T) ∧ w'.cell? ⟨y, 6, none⟩ = some (.slice L0 D.length M0) ∧ w'.cell? (u.add ((l).toNat * 3)) = some (.int .i64 ((rd_T76 q l).f0)) ∧ w'.cell? ⟨(u.add ((l).toNat * 3)).block, (u.add ((l).toNat * 3)).off + 1, none⟩ = some (.int .i64 ((rd_T76 q l).f1)) ∧ w'.cell? ⟨(u.add ((l).toNat * 3)).block, (u.add ((l).toNat * 3)).off + 2, none⟩ = some (.slice i0 ((rd_T76 q l).f2).length m0)) (ds := []) (bl 22 0) (by kernel_rfl) rfl (by kernel_rfl) ⟨zy a 0, zy a 1, zy a 2, zy a 3, zy a 4, zy a 5, zy a 6, (zX HB c0:), (zX HB b0:), (zX HB a0:)⟩ (fun hHeld => ?_); refine with_tabW spec_l11Kernel.tab6 spec_l11Kernel.bits6 (fun HT_ HW_ => ?_)
     generalize wr.drew = n7 at a HB d0 z A B hHeld ⊢
     refine zP 0 47 (bl 22 1) HT_ ?_
     refine zP 2 49 (bl 22 5) HT_ ?_
     refine zP 5 52 (bl 22 37) HT_ ?_
     refine zP 7 54 (bl 22 165) HT_ ?_
     refine zT 1 48 (bl 22 167) rfl rfl HT_ HW_ hHeld (by rintro w' ⟨s0, s1, s2, s3, s4, s5, s6, s7, s8, s9⟩; go_simp; with_reducible rfl) ?_
     refine zP 3 50 (bl 22 175) HT_ ?_
     refine zT 4 51 (bl 22 191) rfl rfl HT_ HW_ hHeld (by rintro w' ⟨s0, s1, s2, s3, s4, s5, s6, s7, s8, s9⟩; go_simp; with_reducible rfl) ?_
     refine zT 6 53 (bl 22 255) rfl rfl HT_ HW_ hHeld (by rintro w' ⟨s0, s1, s2, s3, s4, s5, s6, s7, s8, s9⟩; go_simp; with_reducible rfl) ?_
     refine one_ (i := 8) (N := some 55) (bl 22 511) rfl rfl (one_of HT_.out (by kernel_rfl)) (by decide) (fun K hK => ?_)
     refine goes_ Try.func62 (by kernel_rfl) rfl #[.agg #[.int .i64 ((rd_T76 q l).f0), .int .i64 ((rd_T76 q l).f1), .slice i0 ((rd_T76 q l).f2).length m0], .slice n0 x.length o0, .slice A1 l1.length c1] (by rfl) rfl rfl zL ?_
     refine (spec_l11Access.calls k2 ((rd_T76 q l).f0) ((rd_T76 q l).f1) _ _ ((rd_T76 q l).f2) _ _ x _ _ l1 false _ (zS d0) x0.out (zS E0) F0.out (zS I4) J4.out V4.out).mono ?_
     rintro e o7 ⟨rfl, hb⟩
     refine ⟨_, rfl, ?_⟩
     have e0 := z7 a hb
     have g0 := z8 hb
     revert e0 g0
     clear a HB
     intro a HB
     (try clear hb)
     (try clear hb2)
     (try clear hk)
     (try clear hi)
     refine hK.out _ _ ⟨zy a 0, zy a 1, zy a 2, zy a 3, zy a 4, zy a 5, zy a 6, (zX HB c0:), (zX HB b0:), (zX HB a0:)⟩ (fun hHeld => ?_)
     clear hK K
     refine zU 55 ?_
     refine zP 9 56 (bl 22 1023) HT_ ?_
     refine zP 10 57 (bl 22 2047) HT_ ?_
     refine zO 11 58 (bl 22 4095) HT_ ?_
     refine zO 12 59 (bl 22 8191) HT_ ?_
     refine zO 13 60 (bl 22 16383) HT_ ?_
     refine zO 14 61 (bl 22 32767) HT_ ?_
     refine zO 15 62 (bl 22 65535) HT_ ?_
     refine zO 16 63 (bl 22 131071) HT_ ?_
     refine zO 17 64 (bl 22 262143) HT_ ?_
     refine zO 18 65 (bl 22 524287) HT_ ?_
     refine zO 19 66 (bl 22 1048575) HT_ ?_
     refine zO 20 67 (bl 22 2097151) HT_ ?_
     refine zP 21 68 (bl 22 4194303) HT_ ?_
     refine done_ (done_of HT_.out (by kernel_rfl)) ?_
     try go_wp2
     go_ret
     exact ⟨zE, zB⟩
   subst M4
   rw [if_pos rfl] at H
   by_cases B1 : ((rd_T76 q l).f0) = I
   · rw [if_pos B1] at H
     have d5 := beq_iff_eq.mpr B1
     have e5 := bne_eq_false_iff_eq.mpr B1
     clear B1
     obtain rfl := z5 H
     obtain ⟨f6, g6, i6, j6, l6, m6, n6, o6, p6, q6, t6, x6, y6, A6⟩ := zc7 a
     try go_wp2
     have e0 := zK (zd a.out)
     have g0 := zK (ze HB.out)
     revert e0 g0
     clear a HB
     intro a HB
     have p0 : 0 ≤ (l : Int) := z3
     have q0 : l < (q.length : Int) := z3
     obtain ⟨u, i0, m0, y1, z, A, B, U, X⟩ := at_T76 V0.out l p0 q0
     have a0 := B
     have b0 := A
     have c0 := z
     cases y1
     (try replace z := zX HB z)
     (try replace A := zX HB A)
     (try replace B := zX HB B)
     have d0 := zK X
     have x0 := zK U
     clear X U
     replace p0 := eq_true p0
     replace q0 := eq_true q0
     have T0 : 0 ≤ (l : Int) := z3
     have U0 : l < (q.length : Int) := z3
     obtain ⟨p3, C1, D1, q4, L, M, O, y0, A0⟩ := at_T76 V0.out l T0 U0
     have B0 := O
     have C0 := M
     have D0 := L
     obtain rfl : u = p3 := (by injection q4)
     (try replace L := zX HB L)
     (try replace M := zX HB M)
     (try replace O := zX HB O)
     have q1 := zK A0
     have N4 := zK y0
     clear A0 y0
     replace T0 := eq_true T0
     replace U0 := eq_true U0
     refine start_ (n := 22) (S := fun w' => w'.cell? ⟨y, 0, none⟩ = some (.slice n0 x.length o0) ∧ w'.cell? ⟨y, 1, none⟩ = some (.slice (some u) q.length G0) ∧ w'.cell? ⟨y, 2, none⟩ = some (.int .i64 I) ∧ w'.cell? ⟨y, 3, none⟩ = some (.int .i64 J) ∧ w'.cell? ⟨y, 4, none⟩ = some (.slice I0 E.length J0) ∧ w'.cell? ⟨y, 5, none⟩ = some (.bool T) ∧ w'.cell? ⟨y, 6, none⟩ = some (.slice L0 D.length M0) ∧ w'.cell? (u.add ((l).toNat * 3)) = some (.int .i64 ((rd_T76 q l).f0)) ∧ w'.cell? ⟨(u.add ((l).toNat * 3)).block, (u.add ((l).toNat * 3)).off + 1, none⟩ = some (.int .i64 ((rd_T76 q l).f1)) ∧ w'.cell? ⟨(u.add ((l).toNat * 3)).block, (u.add ((l).toNat * 3)).off + 2, none⟩ = some (.slice i0 ((rd_T76 q l).f2).length m0) ∧ w'.cell? (u.add ((l).toNat * 3)) = some (.int .i64 ((rd_T76 q l).f0)) ∧ w'.cell? ⟨(u.add ((l).toNat * 3)).block, (u.add ((l).toNat * 3)).off + 1, none⟩ = some (.int .i64 ((rd_T76 q l).f1)) ∧ w'.cell? ⟨(u.add ((l).toNat * 3)).block, (u.add ((l).toNat * 3)).off + 2, none⟩ = some (.slice C1 ((rd_T76 q l).f2).length D1)) (ds := []) (bl 22 0) (by kernel_rfl) rfl (by kernel_rfl) ⟨zy a 0, zy a 1, zy a 2, zy a 3, zy a 4, zy a 5, zy a 6, (zX HB c0:), (zX HB b0:), (zX HB a0:), (zX HB D0:), (zX HB C0:), (zX HB B0:)⟩ (fun hHeld => ?_); refine with_tabW spec_l11Kernel.tab6 spec_l11Kernel.bits6 (fun HT_ HW_ => ?_)
     generalize wr.drew = p7 at a HB d0 q1 z A B L M O hHeld ⊢
     refine zP 0 47 (bl 22 1) HT_ ?_
     refine zP 2 49 (bl 22 5) HT_ ?_
     refine zP 5 52 (bl 22 37) HT_ ?_
     refine zP 7 54 (bl 22 165) HT_ ?_
     refine zT 1 48 (bl 22 167) rfl rfl HT_ HW_ hHeld (by rintro w' ⟨s0, s1, s2, s3, s4, s5, s6, s7, s8, s9, N0, O0, R0⟩; go_simp; with_reducible rfl) ?_
     refine zP 3 50 (bl 22 175) HT_ ?_
     refine zT 4 51 (bl 22 191) rfl rfl HT_ HW_ hHeld (by rintro w' ⟨s0, s1, s2, s3, s4, s5, s6, s7, s8, s9, N0, O0, R0⟩; go_simp; with_reducible rfl) ?_
     refine zT 6 53 (bl 22 255) rfl rfl HT_ HW_ hHeld (by rintro w' ⟨s0, s1, s2, s3, s4, s5, s6, s7, s8, s9, N0, O0, R0⟩; go_simp; with_reducible rfl) ?_
     refine one_ (i := 8) (N := some 55) (bl 22 511) rfl rfl (one_of HT_.out (by kernel_rfl)) (by decide) (fun K hK => ?_)
     refine goes_ Try.func62 (by kernel_rfl) rfl #[.agg #[.int .i64 ((rd_T76 q l).f0), .int .i64 ((rd_T76 q l).f1), .slice i0 ((rd_T76 q l).f2).length m0], .slice n0 x.length o0, .slice A1 l1.length c1] (by rfl) rfl rfl zL ?_
     refine (spec_l11Access.calls k2 ((rd_T76 q l).f0) ((rd_T76 q l).f1) _ _ ((rd_T76 q l).f2) _ _ x _ _ l1 true _ (zS d0) x0.out (zS E0) F0.out (zS I4) J4.out V4.out).mono ?_
     rintro e q7 ⟨rfl, hb⟩
     refine ⟨_, rfl, ?_⟩
     have e0 := z7 a hb
     have g0 := z8 hb
     revert e0 g0
     clear a HB
     intro a HB
     (try clear hb)
     (try clear hb2)
     (try clear hk)
     (try clear hi)
     refine hK.out _ _ ⟨zy a 0, zy a 1, zy a 2, zy a 3, zy a 4, zy a 5, zy a 6, (zX HB c0:), (zX HB b0:), (zX HB a0:), (zX HB D0:), (zX HB C0:), (zX HB B0:)⟩ (fun hHeld => ?_)
     clear hK K
     refine zU 55 ?_
     refine zP 9 56 (bl 22 1023) HT_ ?_
     refine zP 10 57 (bl 22 2047) HT_ ?_
     refine zP 11 58 (bl 22 4095) HT_ ?_
     refine zP 13 60 (bl 22 12287) HT_ ?_
     refine zP 17 64 (bl 22 143359) HT_ ?_
     refine zP 18 65 (bl 22 405503) HT_ ?_
     refine zT 12 59 (bl 22 409599) rfl rfl HT_ HW_ hHeld (by rintro w' ⟨s0, s1, s2, s3, s4, s5, s6, s7, s8, s9, N0, O0, R0⟩; go_simp; with_reducible rfl) ?_
     refine zP 14 61 (bl 22 425983) HT_ ?_
     refine zP 15 62 (bl 22 458751) HT_ ?_
     refine zT 16 63 (bl 22 524287) rfl rfl HT_ HW_ hHeld (by rintro w' ⟨s0, s1, s2, s3, s4, s5, s6, s7, s8, s9, N0, O0, R0⟩; go_simp; with_reducible rfl) ?_
     refine zT 19 66 (bl 22 1048575) rfl rfl HT_ HW_ hHeld (by rintro w' ⟨s0, s1, s2, s3, s4, s5, s6, s7, s8, s9, N0, O0, R0⟩; go_simp; with_reducible rfl) ?_
     refine zP 20 67 (bl 22 2097151) HT_ ?_
     refine zP 21 68 (bl 22 4194303) HT_ ?_
     refine done_ (done_of HT_.out (by kernel_rfl)) ?_
     try go_wp2
     go_ret
     exact ⟨zE, zB⟩
   rw [if_neg B1] at H
   have d5 := beq_eq_false_iff_ne.mpr B1
   have e5 := bne_iff_ne.mpr B1
   have H' := zK H
   clear H
   obtain ⟨B6, C6, D6, E6, F6, G6, I6, J6, L6, M6, N6, O6, R6, S6⟩ := zc7 a
   try go_wp2
   have e0 := zK (zd a.out)
   have g0 := zK (ze HB.out)
   revert e0 g0
   clear a HB
   intro a HB
   have p0 : 0 ≤ (l : Int) := z3
   have q0 : l < (q.length : Int) := z3
   obtain ⟨u, i0, m0, y1, z, A, B, U, X⟩ := at_T76 V0.out l p0 q0
   have a0 := B
   have b0 := A
   have c0 := z
   cases y1
   (try replace z := zX HB z)
   (try replace A := zX HB A)
   (try replace B := zX HB B)
   have d0 := zK X
   have x0 := zK U
   clear X U
   replace p0 := eq_true p0
   replace q0 := eq_true q0
   have T0 : 0 ≤ (l : Int) := z3
   have U0 : l < (q.length : Int) := z3
   obtain ⟨p3, C1, D1, q4, L, M, O, y0, A0⟩ := at_T76 V0.out l T0 U0
   have B0 := O
   have C0 := M
   have D0 := L
   obtain rfl : u = p3 := (by injection q4)
   (try replace L := zX HB L)
   (try replace M := zX HB M)
   (try replace O := zX HB O)
   have q1 := zK A0
   have N4 := zK y0
   clear A0 y0
   replace T0 := eq_true T0
   replace U0 := eq_true U0
   refine start_ (n := 22) (S := fun w' => w'.cell? ⟨y, 0, none⟩ = some (.slice n0 x.length o0) ∧ w'.cell? ⟨y, 1, none⟩ = some (.slice (some u) q.length G0) ∧ w'.cell? ⟨y, 2, none⟩ = some (.int .i64 I) ∧ w'.cell? ⟨y, 3, none⟩ = some (.int .i64 J) ∧ w'.cell? ⟨y, 4, none⟩ = some (.slice I0 E.length J0) ∧ w'.cell? ⟨y, 5, none⟩ = some (.bool T) ∧ w'.cell? ⟨y, 6, none⟩ = some (.slice L0 D.length M0) ∧ w'.cell? (u.add ((l).toNat * 3)) = some (.int .i64 ((rd_T76 q l).f0)) ∧ w'.cell? ⟨(u.add ((l).toNat * 3)).block, (u.add ((l).toNat * 3)).off + 1, none⟩ = some (.int .i64 ((rd_T76 q l).f1)) ∧ w'.cell? ⟨(u.add ((l).toNat * 3)).block, (u.add ((l).toNat * 3)).off + 2, none⟩ = some (.slice i0 ((rd_T76 q l).f2).length m0) ∧ w'.cell? (u.add ((l).toNat * 3)) = some (.int .i64 ((rd_T76 q l).f0)) ∧ w'.cell? ⟨(u.add ((l).toNat * 3)).block, (u.add ((l).toNat * 3)).off + 1, none⟩ = some (.int .i64 ((rd_T76 q l).f1)) ∧ w'.cell? ⟨(u.add ((l).toNat * 3)).block, (u.add ((l).toNat * 3)).off + 2, none⟩ = some (.slice C1 ((rd_T76 q l).f2).length D1)) (ds := []) (bl 22 0) (by kernel_rfl) rfl (by kernel_rfl) ⟨zy a 0, zy a 1, zy a 2, zy a 3, zy a 4, zy a 5, zy a 6, (zX HB c0:), (zX HB b0:), (zX HB a0:), (zX HB D0:), (zX HB C0:), (zX HB B0:)⟩ (fun hHeld => ?_); refine with_tabW spec_l11Kernel.tab6 spec_l11Kernel.bits6 (fun HT_ HW_ => ?_)
   generalize wr.drew = t7 at a HB d0 q1 z A B L M O hHeld ⊢
   refine zP 0 47 (bl 22 1) HT_ ?_
   refine zP 2 49 (bl 22 5) HT_ ?_
   refine zP 5 52 (bl 22 37) HT_ ?_
   refine zP 7 54 (bl 22 165) HT_ ?_
   refine zT 1 48 (bl 22 167) rfl rfl HT_ HW_ hHeld (by rintro w' ⟨s0, s1, s2, s3, s4, s5, s6, s7, s8, s9, N0, O0, R0⟩; go_simp; with_reducible rfl) ?_
   refine zP 3 50 (bl 22 175) HT_ ?_
   refine zT 4 51 (bl 22 191) rfl rfl HT_ HW_ hHeld (by rintro w' ⟨s0, s1, s2, s3, s4, s5, s6, s7, s8, s9, N0, O0, R0⟩; go_simp; with_reducible rfl) ?_
   refine zT 6 53 (bl 22 255) rfl rfl HT_ HW_ hHeld (by rintro w' ⟨s0, s1, s2, s3, s4, s5, s6, s7, s8, s9, N0, O0, R0⟩; go_simp; with_reducible rfl) ?_
   refine one_ (i := 8) (N := some 55) (bl 22 511) rfl rfl (one_of HT_.out (by kernel_rfl)) (by decide) (fun K hK => ?_)
   refine goes_ Try.func62 (by kernel_rfl) rfl #[.agg #[.int .i64 ((rd_T76 q l).f0), .int .i64 ((rd_T76 q l).f1), .slice i0 ((rd_T76 q l).f2).length m0], .slice n0 x.length o0, .slice A1 l1.length c1] (by rfl) rfl rfl zL ?_
   refine (spec_l11Access.calls k2 ((rd_T76 q l).f0) ((rd_T76 q l).f1) _ _ ((rd_T76 q l).f2) _ _ x _ _ l1 true _ (zS d0) x0.out (zS E0) F0.out (zS I4) J4.out V4.out).mono ?_
   rintro e x7 ⟨rfl, hb⟩
   refine ⟨_, rfl, ?_⟩
   have e0 := z7 a hb
   have g0 := z8 hb
   revert e0 g0
   clear a HB
   intro a HB
   (try clear hb)
   (try clear hb2)
   (try clear hk)
   (try clear hi)
   refine hK.out _ _ ⟨zy a 0, zy a 1, zy a 2, zy a 3, zy a 4, zy a 5, zy a 6, (zX HB c0:), (zX HB b0:), (zX HB a0:), (zX HB D0:), (zX HB C0:), (zX HB B0:)⟩ (fun hHeld => ?_)
   clear hK K
   refine zU 55 ?_
   refine zP 9 56 (bl 22 1023) HT_ ?_
   refine zP 10 57 (bl 22 2047) HT_ ?_
   refine zP 11 58 (bl 22 4095) HT_ ?_
   refine zP 13 60 (bl 22 12287) HT_ ?_
   refine zP 17 64 (bl 22 143359) HT_ ?_
   refine zP 18 65 (bl 22 405503) HT_ ?_
   refine zT 12 59 (bl 22 409599) rfl rfl HT_ HW_ hHeld (by rintro w' ⟨s0, s1, s2, s3, s4, s5, s6, s7, s8, s9, N0, O0, R0⟩; go_simp; with_reducible rfl) ?_
   refine zP 14 61 (bl 22 425983) HT_ ?_
   refine zP 15 62 (bl 22 458751) HT_ ?_
   refine zT 16 63 (bl 22 524287) rfl rfl HT_ HW_ hHeld (by rintro w' ⟨s0, s1, s2, s3, s4, s5, s6, s7, s8, s9, N0, O0, R0⟩; go_simp; with_reducible rfl) ?_
   refine zT 19 66 (bl 22 1048575) rfl rfl HT_ HW_ hHeld (by rintro w' ⟨s0, s1, s2, s3, s4, s5, s6, s7, s8, s9, N0, O0, R0⟩; go_simp; with_reducible rfl) ?_
   refine zP 20 67 (bl 22 2097151) HT_ ?_
   refine zP 21 68 (bl 22 4194303) HT_ ?_
   refine done_ (done_of HT_.out (by kernel_rfl)) ?_
   try go_wp2
   go_roundg k2
   case measure => have := l5.out; have := n5.out; omega
   case rel => exact ⟨(wrap64 (l + 1)), zR, H', ⟨by have := l5.out; have := n5.out; omega⟩, ⟨zM a⟩, ⟨zB⟩⟩
end Go.Proofs.Ytmcboiffbcnalaa.PFnExactPlanOk
