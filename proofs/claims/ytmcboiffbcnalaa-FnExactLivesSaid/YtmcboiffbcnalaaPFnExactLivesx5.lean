-- Printed out of the translation by this session's own turned copy of a printer; Lean checks it.
import Derived.Test.YtmcboiffbcnalaaPFnExactLivesx0
import Derived.Test.YtmcboiffbcnalaaPFnExactLivesx2
import Derived.Test.YtmcboiffbcnalaaPFnExactLivesx3
import Derived.Test.YtmcboiffbcnalaaPFnExactLivesx4
namespace Go.Proofs.Ytmcboiffbcnalaa.PFnExactLives
open Go.RowKit Go.Proofs.YtmcboiffbcnalaaW.PrintWords Go.Proofs.YtmcboiffbcnalaaW.PrintLast Go.Proofs.YtmcboiffbcnalaaW.PrintMore
attribute [local go_sem] max2_int min2_int max_two min_two max_three min_three max_four min_four
set_option linter.unusedVariables false
set_option linter.unusedSimpArgs false
set_option maxHeartbeats 8000000
set_option maxRecDepth 100000
mutual
def spec_l11Kernel.j0 : Nat → List Int → Bool → List Int → List (S76) → Int → Int → List Int → Bool → List (S122) → Option (Bool)
 | 0, _, _, _, _, _, _, _, _, _ => none
 | k + 1, I, E, l, q, u, y, z, A, B => if E = true then (some false) else (spec_l11Kernel.l0 k I 0 l q u y z A B)
def spec_l11Kernel.l0 : Nat → List Int → Int → List Int → List (S76) → Int → Int → List Int → Bool → List (S122) → Option (Bool)
 | 0, _, _, _, _, _, _, _, _, _ => none
 | k + 1, J, y, q, l, u, z, A, B, E => if y < (l.length : Int) then (if 0 ≤ y then ((spec_l11Access.f k ((rd_T76 l y).f0) ((rd_T76 l y).f1) ((rd_T76 l y).f2) q J).bind fun I => (if I = true then (if ((rd_T76 l y).f0) = u then (some false) else (spec_l11Kernel.l0 k J (wrap64 (y + 1)) q l u z A B E)) else (some false))) else (none)) else (some true)
end
def spec_l11Kernel.f (k : Nat) (l : List Int) (q : List (S76)) (u : Int) (y : Int) (z : List Int) (B : Bool) (A : List (S122)) (E : List Int) : Option (Bool) := if (l.length : Int) > 12 then (spec_l11Kernel.j0 k E true l q u y z B A) else (if (q.length : Int) > 30 then (spec_l11Kernel.j0 k E true l q u y z B A) else ((spec_l11Product.f k l).bind fun I => (if I = 0 then (spec_l11Kernel.j0 k E true l q u y z B A) else ((spec_l11Code.f k A (q.length : Int)).bind fun J => (if J = true then ((spec_l11Access.f k u y z l E).bind fun L => (spec_l11Kernel.j0 k E (!L) l q u y z B A)) else (spec_l11Kernel.j0 k E true l q u y z B A))))))
def spec_l11Kernel.T6 : Bool × List (List Nat × List Nat) := (true, [([], []), ([0], [0]), ([], []), ([1, 2], [1, 2]), ([3], [3]), ([], []), ([5], [5]), ([], []), ([4, 6, 7], [4, 6, 7]), ([8], [8]), ([9, 8], [9]), ([10], [10]), ([11, 10], [10, 11]), ([10], [10]), ([12, 13, 10], [10, 12, 13]), ([14, 10], [10, 14]), ([15, 10], [10, 15]), ([10], [10]), ([17, 10], [10, 17]), ([18, 10], [10, 18]), ([16, 19, 10], [10, 16, 19]), ([10, 20], [10, 20])])
def spec_l11Kernel.B6 : List Nat := [0, 1, 0, 7, 15, 0, 32, 0, 255, 511, 1023, 2047, 4095, 2047, 16383, 32767, 65535, 2047, 133119, 395263, 1048575, 2097151]
theorem spec_l11Kernel.tab6 : rtab .any (opsOf Try.f41 6) = spec_l11Kernel.T6 := by kernel_rfl
theorem spec_l11Kernel.bits6 : waitsOk spec_l11Kernel.T6.2 spec_l11Kernel.B6 = true := by kernel_rfl
theorem spec_l11Kernel.calls (k) (q0) (t0) (z : List Int) (C1) (L0) (u : List (S76)) (M) (O) (M0) (N0) (L : List Int) (a0 : Bool) (O0) (R0) (J : List (S122)) (A1) (c1) (l1 : List Int) (r : Bool) (w) (A4 : Kd.C (Kd.int .i64) w q0 z.length z) (B4 : z.length ≤ t0) (C4 : Kd.C k76 w C1 u.length u) (D4 : u.length ≤ L0) (E4 : Kd.C (Kd.int .i64) w M0 L.length L) (F4 : L.length ≤ N0) (G4 : Kd.C k122 w O0 J.length J) (I4 : J.length ≤ R0) (j5 : Kd.C (Kd.int .i64) w A1 l1.length l1) (l5 : l1.length ≤ c1) (h : spec_l11Kernel.f k z u M O L a0 J l1 = some r) :
 Calls Try.prog 41 #[.agg #[.slice q0 z.length t0, .slice C1 u.length L0, .int .i64 M, .int .i64 O, .slice M0 L.length N0, .bool a0, .slice O0 J.length R0], .slice A1 l1.length c1] w fun e w' => e = .returned (.bool r) ∧ Below w.heap.size w w' := by
 have j7 := Try.underlying79
 have l7 := Try.underlying76
 have I0 := zK A4
 have J0 := zK B4
 clear A4 B4
 have b1 := zK C4
 have e7 := zK D4
 clear C4 D4
 have d5 := zK E4
 have e5 := zK F4
 clear E4 F4
 have J4 := zK G4
 have L4 := zK I4
 clear G4 I4
 have M4 := zK j5
 have N4 := zK l5
 clear j5 l5
 have HB := zK (Below.refl w.heap.size w)
 have H : (if (z.length : Int) > 12 then (spec_l11Kernel.j0 k l1 true z u M O L a0 J) else (if (u.length : Int) > 30 then (spec_l11Kernel.j0 k l1 true z u M O L a0 J) else ((spec_l11Product.f k z).bind fun x1 => (if x1 = 0 then (spec_l11Kernel.j0 k l1 true z u M O L a0 J) else ((spec_l11Code.f k J (u.length : Int)).bind fun p4 => (if p4 = true then ((spec_l11Access.f k M O L z l1).bind fun p3 => (spec_l11Kernel.j0 k l1 (!p3) z u M O L a0 J)) else (spec_l11Kernel.j0 k l1 true z u M O L a0 J))))))) = some r := h
 clear h
 have U4 := zK H
 clear H
 go_enter Try.func41, Try.ntmps41
 go_upto_region 1 with (first | ((with_reducible refine gd 2 rfl ?_); (try (refine gate_guard (by rfl) ?_; dsimp only)); refine zJ 2 #[.slice q0 z.length t0, .slice C1 u.length L0, .int .i64 M, .int .i64 O, .slice M0 L.length N0, .bool a0, .slice O0 J.length R0] 79 ?_; intro A hg w4 hbox hb; have m0 := z8 hb; have n0 := zK (hbox); have X6 := z9 hg; have a7 := z9 hg; revert m0 n0 X6 a7; clear HB; intro HB l f7 g7; clear hb hbox hg))
 (try simp only [Act.put, zq1, zq2, zq3])
 go_cut [39] (fun v39 wc => ∃ (kq : Nat) (B1 : Bool), v39 = .bool B1 ∧ Aside0 (spec_l11Kernel.j0 kq l1 B1 z u M O L a0 J = some r) ∧ Aside0 (kq ≤ k) ∧ Aside0 (wc.heap[A]? = some (.cells #[(.slice q0 z.length t0), (.slice C1 u.length L0), .int .i64 M, .int .i64 O, (.slice M0 L.length N0), .bool a0, (.slice O0 J.length R0)] 79 (0, 0))) ∧ Aside0 (Below w.heap.size w wc))
 case first =>
  have H := U4.out
  clear U4
  by_cases c5 : (z.length : Int) > 12
  · rw [if_pos c5] at H
    have V0 := z1 c5
    have q4 : decide (12 < z.length) = true := z1 (by omega)
    clear c5
    (first | rw [V0] | (simp only [i64_w, i32_w]; rw [V0]) | skip)
    have H' := zK H
    clear H
    obtain ⟨A3, B3, C3, D3, E3, F3, G3, I3, J3, L3, M3, N3, O3, R3⟩ := zc7 l
    go_wp2
    go_meet
    case rel => exact ⟨_, (true), zR, H', ⟨by first | omega | exact Nat.le_refl _⟩, ⟨zM l⟩, ⟨zB⟩⟩
  rw [if_neg c5] at H
  have V0 := z2 c5
  have q4 : decide (12 < z.length) = false := z2 (by omega)
  clear c5
  (first | rw [V0] | (simp only [i64_w, i32_w]; rw [V0]) | skip)
  by_cases c7 : (u.length : Int) > 30
  · rw [if_pos c7] at H
    have t4 := z1 c7
    have x4 : decide (30 < u.length) = true := z1 (by omega)
    clear c7
    have H' := zK H
    clear H
    obtain ⟨T3, U3, V3, X3, a4, b4, d4, e4, f4, g4, i4, j4, l4, m4⟩ := zc7 l
    go_wp2
    go_meet
    case rel => exact ⟨_, (true), zR, H', ⟨by first | omega | exact Nat.le_refl _⟩, ⟨zM l⟩, ⟨zB⟩⟩
  rw [if_neg c7] at H
  have t4 := z2 c7
  have x4 : decide (30 < u.length) = false := z2 (by omega)
  clear c7
  replace H := z6 H
  obtain ⟨x1, m5, H⟩ := H
  have A9 := zK m5
  clear m5
  by_cases d1 : x1 = 0
  · rw [if_pos d1] at H
    have q3 := beq_iff_eq.mpr d1
    have t3 := bne_eq_false_iff_eq.mpr d1
    clear d1
    have H' := zK H
    clear H
    obtain ⟨I1, J1, L1, M1, N1, O1, R1, S1, T1, U1, V1, X1, a2, b2⟩ := zc7 l
    go_wp2_with (first | (go_at_call 42; (with_reducible refine (spec_l11Product.calls k _ _ z x1 _ ?side1 ?side2 A9.out).mono ?_); (case side1 => exact zS I0); (case side2 => exact J0.out); rintro e w' ⟨rfl, ⟨nd, rfl⟩⟩))
    go_meet
    case rel => exact ⟨_, (true), zR, H', ⟨by first | omega | exact Nat.le_refl _⟩, ⟨zM l⟩, ⟨zB⟩⟩
  rw [if_neg d1] at H
  have q3 := beq_eq_false_iff_ne.mpr d1
  have t3 := bne_iff_ne.mpr d1
  replace H := z6 H
  obtain ⟨p4, V4, H⟩ := H
  have n5 := zK V4
  clear V4
  by_cases d2 : p4 = true
  rotate_left
  · replace d2 := Bool.eq_false_iff.mpr d2
    subst d2
    rw [if_neg (show ¬ (false = true) by decide)] at H
    have H' := zK H
    clear H
    obtain ⟨e2, g2, i2, j2, l2, m2, n2, o2, q2, t2, x2, y2, A2, B2⟩ := zc7 l
    go_wp2_with (first | (go_at_call 42; (with_reducible refine (spec_l11Product.calls k _ _ z x1 _ ?side1 ?side2 A9.out).mono ?_); (case side1 => exact zS I0); (case side2 => exact J0.out); rintro e w' ⟨rfl, ⟨nd, rfl⟩⟩) | (go_at_call 61; (with_reducible refine (spec_l11Code.calls k _ _ J (u.length : Int) false _ ?side1 ?side2 n5.out).mono ?_); (case side1 => exact zS J4); (case side2 => exact L4.out); rintro e n7 ⟨rfl, hb⟩; have m0 := z7 l hb; have n0 := z8 hb; revert m0 n0; clear l HB; intro l HB))
    go_meet
    case rel => exact ⟨_, (true), zR, H', ⟨by first | omega | exact Nat.le_refl _⟩, ⟨zM l⟩, ⟨zB⟩⟩
  subst d2
  rw [if_pos rfl] at H
  replace H := z6 H
  obtain ⟨p3, X4, H⟩ := H
  have b7 := zK X4
  clear X4
  have H' := zK H
  clear H
  obtain ⟨C2, D2, E2, F2, G2, I2, J2, L2, M2, N2, O2, R2, T2, U2⟩ := zc7 l
  go_wp2_with (first | (go_at_call 42; (with_reducible refine (spec_l11Product.calls k _ _ z x1 _ ?side1 ?side2 A9.out).mono ?_); (case side1 => exact zS I0); (case side2 => exact J0.out); rintro e w' ⟨rfl, ⟨nd, rfl⟩⟩) | (go_at_call 61; (with_reducible refine (spec_l11Code.calls k _ _ J (u.length : Int) true _ ?side1 ?side2 n5.out).mono ?_); (case side1 => exact zS J4); (case side2 => exact L4.out); rintro e o7 ⟨rfl, hb⟩; have m0 := z7 l hb; have n0 := z8 hb; revert m0 n0; clear l HB; intro l HB; obtain ⟨V2, X2, a3, b3, c3, d3, e3, f3, g3, i3, j3, l3, m3, n3⟩ := zc7 l) | (go_at_call 62; (with_reducible refine (spec_l11Access.calls k M O _ _ L _ _ z _ _ l1 p3 _ ?side1 ?side2 ?side3 ?side4 ?side5 ?side6 b7.out).mono ?_); (case side1 => exact zS d5); (case side2 => exact e5.out); (case side3 => exact zS I0); (case side4 => exact J0.out); (case side5 => exact zS M4); (case side6 => exact N4.out); rintro e p7 ⟨rfl, hb⟩; have m0 := z7 l hb; have n0 := z8 hb; revert m0 n0; clear l HB; intro l HB))
  go_meet
  case rel => exact ⟨_, (!p3), zR, H', ⟨by first | omega | exact Nat.le_refl _⟩, ⟨zM l⟩, ⟨zB⟩⟩
 case rest =>
  clear U4
  try clear c1
  try clear p2
  try clear c4
  try clear c5
  try clear V0
  try clear q4
  try clear c7
  try clear t4
  try clear x4
  try clear d1
  try clear q3
  try clear t3
  try clear d2
  try clear I1 J1 L1 M1 N1 O1 R1 S1 T1 U1 V1 X1 a2 b2
  try clear C2 D2 E2 F2 G2 I2 J2 L2 M2 N2 O2 R2 T2 U2
  try clear V2 X2 a3 b3 c3 d3 e3 f3 g3 i3 j3 l3 m3 n3
  try clear e2 g2 i2 j2 l2 m2 n2 o2 q2 t2 x2 y2 A2 B2
  try clear A3 B3 C3 D3 E3 F3 G3 I3 J3 L3 M3 N3 O3 R3
  try clear T3 U3 V3 X3 a4 b4 d4 e4 f4 g4 i4 j4 l4 m4
  obtain ⟨kq, B1, rfl, HA, o5, l, HB⟩ := hcut
  cases kq with
  | zero => exact absurd HA.out (by simp [spec_l11Kernel.j0])
  | succ p5 =>
   have H := HA.out
   clear HA
   simp only [spec_l11Kernel.j0] at H
   by_cases n4 : B1 = true
   · subst n4
     rw [if_pos rfl] at H
     obtain rfl := z5 H
     go_wp2
     go_ret
     exact ⟨zE, zB⟩
   replace n4 := Bool.eq_false_iff.mpr n4
   subst n4
   rw [if_neg (show ¬ (false = true) by decide)] at H
   have H' := zK H
   clear H
   go_wp2
   go_loopg [5] p5 (fun kq v5 w' => ∃ (q : Int), v5 = .int .i64 q ∧ Aside0 (spec_l11Kernel.l0 kq l1 q z u M O L a0 J = some r) ∧ Aside0 (kq ≤ p5) ∧ Aside0 (w'.heap[A]? = some (.cells #[(.slice q0 z.length t0), (.slice C1 u.length L0), .int .i64 M, .int .i64 O, (.slice M0 L.length N0), .bool a0, (.slice O0 J.length R0)] 79 (0, 0))) ∧ Aside0 (Below w.heap.size w w'))
   case atStart => exact ⟨(0), zR, H', ⟨Nat.le_refl _⟩, ⟨zM l⟩, ⟨zB⟩⟩
   clear H'
   try clear c1
   try clear c2
   try clear p2
   try clear c4
   try clear c5
   try clear V0
   try clear q4
   try clear c7
   try clear t4
   try clear x4
   try clear d1
   try clear q3
   try clear t3
   try clear d2
   try clear n4
   try clear I1 J1 L1 M1 N1 O1 R1 S1 T1 U1 V1 X1 a2 b2
   try clear C2 D2 E2 F2 G2 I2 J2 L2 M2 N2 O2 R2 T2 U2
   try clear V2 X2 a3 b3 c3 d3 e3 f3 g3 i3 j3 l3 m3 n3
   try clear e2 g2 i2 j2 l2 m2 n2 o2 q2 t2 x2 y2 A2 B2
   try clear A3 B3 C3 D3 E3 F3 G3 I3 J3 L3 M3 N3 O3 R3
   try clear T3 U3 V3 X3 a4 b4 d4 e4 f4 g4 i4 j4 l4 m4
   try clear p2
   obtain ⟨q, rfl, HA, q5, l, HB⟩ := hrel
   rcases gk with _ | k2
   · exact absurd HA.out (by simp [spec_l11Kernel.l0])
   have H := HA.out
   clear HA
   simp only [spec_l11Kernel.l0] at H
   by_cases o3 : q < (u.length : Int)
   rotate_left
   · rw [if_neg o3] at H
     have f5 := z2 o3
     clear o3
     obtain rfl := z5 H
     obtain ⟨y5, A5, B5, C5, D5, E5, F5, G5, I5, J5, L5, M5, N5, O5⟩ := zc7 l
     go_wp2
     go_ret
     exact ⟨zE, zB⟩
   rw [if_pos o3] at H
   have f5 := z1 o3
   clear o3
   by_cases O4 : 0 ≤ q
   rotate_left
   · rw [if_neg O4] at H
     exact absurd H (by simp)
   rw [if_pos O4] at H
   have i7 := z1 O4
   clear O4
   replace H := z6 H
   obtain ⟨x5, a5, H⟩ := H
   have b5 := zK a5
   clear a5
   by_cases R4 : x5 = true
   rotate_left
   · replace R4 := Bool.eq_false_iff.mpr R4
     subst R4
     rw [if_neg (show ¬ (false = true) by decide)] at H
     obtain rfl := z5 H
     obtain ⟨R5, S5, T5, U5, V5, X5, a6, b6, c6, d6, e6, f6, g6, i6⟩ := zc7 l
     try go_wp2
     have m0 := zK (zd l.out)
     have n0 := zK (ze HB.out)
     revert m0 n0
     clear l HB
     intro l HB
     have x0 : 0 ≤ (q : Int) := z3
     have y0 : q < (u.length : Int) := z3
     obtain ⟨y, o0, p0, D1, B, E, I, b0, c0⟩ := at_T76 b1.out q x0 y0
     have d0 := I
     have e0 := E
     have g0 := B
     cases D1
     (try replace B := zX HB B)
     (try replace E := zX HB E)
     (try replace I := zX HB I)
     have i0 := zK c0
     have B0 := zK b0
     clear c0 b0
     replace x0 := eq_true x0
     replace y0 := eq_true y0
     refine start_ (n := 22) (S := fun w' => w'.cell? ⟨A, 0, none⟩ = some (.slice q0 z.length t0) ∧ w'.cell? ⟨A, 1, none⟩ = some (.slice (some y) u.length L0) ∧ w'.cell? ⟨A, 2, none⟩ = some (.int .i64 M) ∧ w'.cell? ⟨A, 3, none⟩ = some (.int .i64 O) ∧ w'.cell? ⟨A, 4, none⟩ = some (.slice M0 L.length N0) ∧ w'.cell? ⟨A, 5, none⟩ = some (.bool a0) ∧ w'.cell? ⟨A, 6, none⟩ = some (.slice O0 J.length R0) ∧ w'.cell? (y.add ((q).toNat * 3)) = some (.int .i64 ((rd_T76 u q).f0)) ∧ w'.cell? ⟨(y.add ((q).toNat * 3)).block, (y.add ((q).toNat * 3)).off + 1, none⟩ = some (.int .i64 ((rd_T76 u q).f1)) ∧ w'.cell? ⟨(y.add ((q).toNat * 3)).block, (y.add ((q).toNat * 3)).off + 2, none⟩ = some (.slice o0 ((rd_T76 u q).f2).length p0)) (ds := []) (bl 22 0) (by kernel_rfl) rfl (by kernel_rfl) ⟨zy l 0, zy l 1, zy l 2, zy l 3, zy l 4, zy l 5, zy l 6, (zX HB g0:), (zX HB e0:), (zX HB d0:)⟩ (fun hHeld => ?_); refine with_tabW spec_l11Kernel.tab6 spec_l11Kernel.bits6 (fun HT_ HW_ => ?_)
     generalize wr.drew = q7 at l HB i0 B E I hHeld ⊢
     refine zP 0 47 (bl 22 1) HT_ ?_
     refine zP 2 49 (bl 22 5) HT_ ?_
     refine zP 5 52 (bl 22 37) HT_ ?_
     refine zP 7 54 (bl 22 165) HT_ ?_
     refine zT 1 48 (bl 22 167) rfl rfl HT_ HW_ hHeld (by rintro w' ⟨s0, s1, s2, s3, s4, s5, s6, s7, s8, s9⟩; go_simp; with_reducible rfl) ?_
     refine zP 3 50 (bl 22 175) HT_ ?_
     refine zT 4 51 (bl 22 191) rfl rfl HT_ HW_ hHeld (by rintro w' ⟨s0, s1, s2, s3, s4, s5, s6, s7, s8, s9⟩; go_simp; with_reducible rfl) ?_
     refine zT 6 53 (bl 22 255) rfl rfl HT_ HW_ hHeld (by rintro w' ⟨s0, s1, s2, s3, s4, s5, s6, s7, s8, s9⟩; go_simp; with_reducible rfl) ?_
     refine one_ (i := 8) (N := some 55) (bl 22 511) rfl rfl (one_of HT_.out (by kernel_rfl)) (by decide) (fun K hK => ?_)
     refine goes_ Try.func62 (by kernel_rfl) rfl #[.agg #[.int .i64 ((rd_T76 u q).f0), .int .i64 ((rd_T76 u q).f1), .slice o0 ((rd_T76 u q).f2).length p0], .slice q0 z.length t0, .slice A1 l1.length c1] (by rfl) rfl rfl zL ?_
     refine (spec_l11Access.calls k2 ((rd_T76 u q).f0) ((rd_T76 u q).f1) _ _ ((rd_T76 u q).f2) _ _ z _ _ l1 false _ (zS i0) B0.out (zS I0) J0.out (zS M4) N4.out b5.out).mono ?_
     rintro e t7 ⟨rfl, hb⟩
     refine ⟨_, rfl, ?_⟩
     have m0 := z7 l hb
     have n0 := z8 hb
     revert m0 n0
     clear l HB
     intro l HB
     (try clear hb)
     (try clear hb2)
     (try clear hk)
     (try clear hi)
     refine hK.out _ _ ⟨zy l 0, zy l 1, zy l 2, zy l 3, zy l 4, zy l 5, zy l 6, (zX HB g0:), (zX HB e0:), (zX HB d0:)⟩ (fun hHeld => ?_)
     clear hK K
     refine zU 55 ?_
     refine zP 9 56 (bl 22 1023) HT_ ?_
     refine zP 10 57 (bl 22 2047) HT_ ?_
     refine zO 11 58 (bl 22 4095) HT_ ?_
     refine zO 12 59 (bl 22 8191) HT_ ?_
     refine zO 13 60 (bl 22 16383) HT_ ?_
     refine zO 14 61 (bl 22 32767) HT_ ?_
     refine zO 15 62 (bl 22 65535) HT_ ?_
     refine zO 16 63 (bl 22 131071) HT_ ?_
     refine zO 17 64 (bl 22 262143) HT_ ?_
     refine zO 18 65 (bl 22 524287) HT_ ?_
     refine zO 19 66 (bl 22 1048575) HT_ ?_
     refine zO 20 67 (bl 22 2097151) HT_ ?_
     refine zP 21 68 (bl 22 4194303) HT_ ?_
     refine done_ (done_of HT_.out (by kernel_rfl)) ?_
     try go_wp2
     go_ret
     exact ⟨zE, zB⟩
   subst R4
   rw [if_pos rfl] at H
   by_cases E1 : ((rd_T76 u q).f0) = M
   · rw [if_pos E1] at H
     have g5 := beq_iff_eq.mpr E1
     have i5 := bne_eq_false_iff_eq.mpr E1
     clear E1
     obtain rfl := z5 H
     obtain ⟨j6, l6, m6, n6, o6, p6, q6, t6, x6, y6, A6, B6, C6, D6⟩ := zc7 l
     try go_wp2
     have m0 := zK (zd l.out)
     have n0 := zK (ze HB.out)
     revert m0 n0
     clear l HB
     intro l HB
     have x0 : 0 ≤ (q : Int) := z3
     have y0 : q < (u.length : Int) := z3
     obtain ⟨y, o0, p0, D1, B, E, I, b0, c0⟩ := at_T76 b1.out q x0 y0
     have d0 := I
     have e0 := E
     have g0 := B
     cases D1
     (try replace B := zX HB B)
     (try replace E := zX HB E)
     (try replace I := zX HB I)
     have i0 := zK c0
     have B0 := zK b0
     clear c0 b0
     replace x0 := eq_true x0
     replace y0 := eq_true y0
     have X0 : 0 ≤ (q : Int) := z3
     have a1 : q < (u.length : Int) := z3
     obtain ⟨x3, F1, G1, y4, T, U, X, C0, D0⟩ := at_T76 b1.out q X0 a1
     have E0 := X
     have F0 := U
     have G0 := T
     obtain rfl : y = x3 := (by injection y4)
     (try replace T := zX HB T)
     (try replace U := zX HB U)
     (try replace X := zX HB X)
     have y1 := zK D0
     have S4 := zK C0
     clear D0 C0
     replace X0 := eq_true X0
     replace a1 := eq_true a1
     refine start_ (n := 22) (S := fun w' => w'.cell? ⟨A, 0, none⟩ = some (.slice q0 z.length t0) ∧ w'.cell? ⟨A, 1, none⟩ = some (.slice (some y) u.length L0) ∧ w'.cell? ⟨A, 2, none⟩ = some (.int .i64 M) ∧ w'.cell? ⟨A, 3, none⟩ = some (.int .i64 O) ∧ w'.cell? ⟨A, 4, none⟩ = some (.slice M0 L.length N0) ∧ w'.cell? ⟨A, 5, none⟩ = some (.bool a0) ∧ w'.cell? ⟨A, 6, none⟩ = some (.slice O0 J.length R0) ∧ w'.cell? (y.add ((q).toNat * 3)) = some (.int .i64 ((rd_T76 u q).f0)) ∧ w'.cell? ⟨(y.add ((q).toNat * 3)).block, (y.add ((q).toNat * 3)).off + 1, none⟩ = some (.int .i64 ((rd_T76 u q).f1)) ∧ w'.cell? ⟨(y.add ((q).toNat * 3)).block, (y.add ((q).toNat * 3)).off + 2, none⟩ = some (.slice o0 ((rd_T76 u q).f2).length p0) ∧ w'.cell? (y.add ((q).toNat * 3)) = some (.int .i64 ((rd_T76 u q).f0)) ∧ w'.cell? ⟨(y.add ((q).toNat * 3)).block, (y.add ((q).toNat * 3)).off + 1, none⟩ = some (.int .i64 ((rd_T76 u q).f1)) ∧ w'.cell? ⟨(y.add ((q).toNat * 3)).block, (y.add ((q).toNat * 3)).off + 2, none⟩ = some (.slice F1 ((rd_T76 u q).f2).length G1)) (ds := []) (bl 22 0) (by kernel_rfl) rfl (by kernel_rfl) ⟨zy l 0, zy l 1, zy l 2, zy l 3, zy l 4, zy l 5, zy l 6, (zX HB g0:), (zX HB e0:), (zX HB d0:), (zX HB G0:), (zX HB F0:), (zX HB E0:)⟩ (fun hHeld => ?_); refine with_tabW spec_l11Kernel.tab6 spec_l11Kernel.bits6 (fun HT_ HW_ => ?_)
     generalize wr.drew = x7 at l HB i0 y1 B E I T U X hHeld ⊢
     refine zP 0 47 (bl 22 1) HT_ ?_
     refine zP 2 49 (bl 22 5) HT_ ?_
     refine zP 5 52 (bl 22 37) HT_ ?_
     refine zP 7 54 (bl 22 165) HT_ ?_
     refine zT 1 48 (bl 22 167) rfl rfl HT_ HW_ hHeld (by rintro w' ⟨s0, s1, s2, s3, s4, s5, s6, s7, s8, s9, S0, T0, U0⟩; go_simp; with_reducible rfl) ?_
     refine zP 3 50 (bl 22 175) HT_ ?_
     refine zT 4 51 (bl 22 191) rfl rfl HT_ HW_ hHeld (by rintro w' ⟨s0, s1, s2, s3, s4, s5, s6, s7, s8, s9, S0, T0, U0⟩; go_simp; with_reducible rfl) ?_
     refine zT 6 53 (bl 22 255) rfl rfl HT_ HW_ hHeld (by rintro w' ⟨s0, s1, s2, s3, s4, s5, s6, s7, s8, s9, S0, T0, U0⟩; go_simp; with_reducible rfl) ?_
     refine one_ (i := 8) (N := some 55) (bl 22 511) rfl rfl (one_of HT_.out (by kernel_rfl)) (by decide) (fun K hK => ?_)
     refine goes_ Try.func62 (by kernel_rfl) rfl #[.agg #[.int .i64 ((rd_T76 u q).f0), .int .i64 ((rd_T76 u q).f1), .slice o0 ((rd_T76 u q).f2).length p0], .slice q0 z.length t0, .slice A1 l1.length c1] (by rfl) rfl rfl zL ?_
     refine (spec_l11Access.calls k2 ((rd_T76 u q).f0) ((rd_T76 u q).f1) _ _ ((rd_T76 u q).f2) _ _ z _ _ l1 true _ (zS i0) B0.out (zS I0) J0.out (zS M4) N4.out b5.out).mono ?_
     rintro e y7 ⟨rfl, hb⟩
     refine ⟨_, rfl, ?_⟩
     have m0 := z7 l hb
     have n0 := z8 hb
     revert m0 n0
     clear l HB
     intro l HB
     (try clear hb)
     (try clear hb2)
     (try clear hk)
     (try clear hi)
     refine hK.out _ _ ⟨zy l 0, zy l 1, zy l 2, zy l 3, zy l 4, zy l 5, zy l 6, (zX HB g0:), (zX HB e0:), (zX HB d0:), (zX HB G0:), (zX HB F0:), (zX HB E0:)⟩ (fun hHeld => ?_)
     clear hK K
     refine zU 55 ?_
     refine zP 9 56 (bl 22 1023) HT_ ?_
     refine zP 10 57 (bl 22 2047) HT_ ?_
     refine zP 11 58 (bl 22 4095) HT_ ?_
     refine zP 13 60 (bl 22 12287) HT_ ?_
     refine zP 17 64 (bl 22 143359) HT_ ?_
     refine zP 18 65 (bl 22 405503) HT_ ?_
     refine zT 12 59 (bl 22 409599) rfl rfl HT_ HW_ hHeld (by rintro w' ⟨s0, s1, s2, s3, s4, s5, s6, s7, s8, s9, S0, T0, U0⟩; go_simp; with_reducible rfl) ?_
     refine zP 14 61 (bl 22 425983) HT_ ?_
     refine zP 15 62 (bl 22 458751) HT_ ?_
     refine zT 16 63 (bl 22 524287) rfl rfl HT_ HW_ hHeld (by rintro w' ⟨s0, s1, s2, s3, s4, s5, s6, s7, s8, s9, S0, T0, U0⟩; go_simp; with_reducible rfl) ?_
     refine zT 19 66 (bl 22 1048575) rfl rfl HT_ HW_ hHeld (by rintro w' ⟨s0, s1, s2, s3, s4, s5, s6, s7, s8, s9, S0, T0, U0⟩; go_simp; with_reducible rfl) ?_
     refine zP 20 67 (bl 22 2097151) HT_ ?_
     refine zP 21 68 (bl 22 4194303) HT_ ?_
     refine done_ (done_of HT_.out (by kernel_rfl)) ?_
     try go_wp2
     go_ret
     exact ⟨zE, zB⟩
   rw [if_neg E1] at H
   have g5 := beq_eq_false_iff_ne.mpr E1
   have i5 := bne_iff_ne.mpr E1
   have H' := zK H
   clear H
   obtain ⟨E6, F6, G6, I6, J6, L6, M6, N6, O6, R6, S6, T6, U6, V6⟩ := zc7 l
   try go_wp2
   have m0 := zK (zd l.out)
   have n0 := zK (ze HB.out)
   revert m0 n0
   clear l HB
   intro l HB
   have x0 : 0 ≤ (q : Int) := z3
   have y0 : q < (u.length : Int) := z3
   obtain ⟨y, o0, p0, D1, B, E, I, b0, c0⟩ := at_T76 b1.out q x0 y0
   have d0 := I
   have e0 := E
   have g0 := B
   cases D1
   (try replace B := zX HB B)
   (try replace E := zX HB E)
   (try replace I := zX HB I)
   have i0 := zK c0
   have B0 := zK b0
   clear c0 b0
   replace x0 := eq_true x0
   replace y0 := eq_true y0
   have X0 : 0 ≤ (q : Int) := z3
   have a1 : q < (u.length : Int) := z3
   obtain ⟨x3, F1, G1, y4, T, U, X, C0, D0⟩ := at_T76 b1.out q X0 a1
   have E0 := X
   have F0 := U
   have G0 := T
   obtain rfl : y = x3 := (by injection y4)
   (try replace T := zX HB T)
   (try replace U := zX HB U)
   (try replace X := zX HB X)
   have y1 := zK D0
   have S4 := zK C0
   clear D0 C0
   replace X0 := eq_true X0
   replace a1 := eq_true a1
   refine start_ (n := 22) (S := fun w' => w'.cell? ⟨A, 0, none⟩ = some (.slice q0 z.length t0) ∧ w'.cell? ⟨A, 1, none⟩ = some (.slice (some y) u.length L0) ∧ w'.cell? ⟨A, 2, none⟩ = some (.int .i64 M) ∧ w'.cell? ⟨A, 3, none⟩ = some (.int .i64 O) ∧ w'.cell? ⟨A, 4, none⟩ = some (.slice M0 L.length N0) ∧ w'.cell? ⟨A, 5, none⟩ = some (.bool a0) ∧ w'.cell? ⟨A, 6, none⟩ = some (.slice O0 J.length R0) ∧ w'.cell? (y.add ((q).toNat * 3)) = some (.int .i64 ((rd_T76 u q).f0)) ∧ w'.cell? ⟨(y.add ((q).toNat * 3)).block, (y.add ((q).toNat * 3)).off + 1, none⟩ = some (.int .i64 ((rd_T76 u q).f1)) ∧ w'.cell? ⟨(y.add ((q).toNat * 3)).block, (y.add ((q).toNat * 3)).off + 2, none⟩ = some (.slice o0 ((rd_T76 u q).f2).length p0) ∧ w'.cell? (y.add ((q).toNat * 3)) = some (.int .i64 ((rd_T76 u q).f0)) ∧ w'.cell? ⟨(y.add ((q).toNat * 3)).block, (y.add ((q).toNat * 3)).off + 1, none⟩ = some (.int .i64 ((rd_T76 u q).f1)) ∧ w'.cell? ⟨(y.add ((q).toNat * 3)).block, (y.add ((q).toNat * 3)).off + 2, none⟩ = some (.slice F1 ((rd_T76 u q).f2).length G1)) (ds := []) (bl 22 0) (by kernel_rfl) rfl (by kernel_rfl) ⟨zy l 0, zy l 1, zy l 2, zy l 3, zy l 4, zy l 5, zy l 6, (zX HB g0:), (zX HB e0:), (zX HB d0:), (zX HB G0:), (zX HB F0:), (zX HB E0:)⟩ (fun hHeld => ?_); refine with_tabW spec_l11Kernel.tab6 spec_l11Kernel.bits6 (fun HT_ HW_ => ?_)
   generalize wr.drew = A7 at l HB i0 y1 B E I T U X hHeld ⊢
   refine zP 0 47 (bl 22 1) HT_ ?_
   refine zP 2 49 (bl 22 5) HT_ ?_
   refine zP 5 52 (bl 22 37) HT_ ?_
   refine zP 7 54 (bl 22 165) HT_ ?_
   refine zT 1 48 (bl 22 167) rfl rfl HT_ HW_ hHeld (by rintro w' ⟨s0, s1, s2, s3, s4, s5, s6, s7, s8, s9, S0, T0, U0⟩; go_simp; with_reducible rfl) ?_
   refine zP 3 50 (bl 22 175) HT_ ?_
   refine zT 4 51 (bl 22 191) rfl rfl HT_ HW_ hHeld (by rintro w' ⟨s0, s1, s2, s3, s4, s5, s6, s7, s8, s9, S0, T0, U0⟩; go_simp; with_reducible rfl) ?_
   refine zT 6 53 (bl 22 255) rfl rfl HT_ HW_ hHeld (by rintro w' ⟨s0, s1, s2, s3, s4, s5, s6, s7, s8, s9, S0, T0, U0⟩; go_simp; with_reducible rfl) ?_
   refine one_ (i := 8) (N := some 55) (bl 22 511) rfl rfl (one_of HT_.out (by kernel_rfl)) (by decide) (fun K hK => ?_)
   refine goes_ Try.func62 (by kernel_rfl) rfl #[.agg #[.int .i64 ((rd_T76 u q).f0), .int .i64 ((rd_T76 u q).f1), .slice o0 ((rd_T76 u q).f2).length p0], .slice q0 z.length t0, .slice A1 l1.length c1] (by rfl) rfl rfl zL ?_
   refine (spec_l11Access.calls k2 ((rd_T76 u q).f0) ((rd_T76 u q).f1) _ _ ((rd_T76 u q).f2) _ _ z _ _ l1 true _ (zS i0) B0.out (zS I0) J0.out (zS M4) N4.out b5.out).mono ?_
   rintro e B7 ⟨rfl, hb⟩
   refine ⟨_, rfl, ?_⟩
   have m0 := z7 l hb
   have n0 := z8 hb
   revert m0 n0
   clear l HB
   intro l HB
   (try clear hb)
   (try clear hb2)
   (try clear hk)
   (try clear hi)
   refine hK.out _ _ ⟨zy l 0, zy l 1, zy l 2, zy l 3, zy l 4, zy l 5, zy l 6, (zX HB g0:), (zX HB e0:), (zX HB d0:), (zX HB G0:), (zX HB F0:), (zX HB E0:)⟩ (fun hHeld => ?_)
   clear hK K
   refine zU 55 ?_
   refine zP 9 56 (bl 22 1023) HT_ ?_
   refine zP 10 57 (bl 22 2047) HT_ ?_
   refine zP 11 58 (bl 22 4095) HT_ ?_
   refine zP 13 60 (bl 22 12287) HT_ ?_
   refine zP 17 64 (bl 22 143359) HT_ ?_
   refine zP 18 65 (bl 22 405503) HT_ ?_
   refine zT 12 59 (bl 22 409599) rfl rfl HT_ HW_ hHeld (by rintro w' ⟨s0, s1, s2, s3, s4, s5, s6, s7, s8, s9, S0, T0, U0⟩; go_simp; with_reducible rfl) ?_
   refine zP 14 61 (bl 22 425983) HT_ ?_
   refine zP 15 62 (bl 22 458751) HT_ ?_
   refine zT 16 63 (bl 22 524287) rfl rfl HT_ HW_ hHeld (by rintro w' ⟨s0, s1, s2, s3, s4, s5, s6, s7, s8, s9, S0, T0, U0⟩; go_simp; with_reducible rfl) ?_
   refine zT 19 66 (bl 22 1048575) rfl rfl HT_ HW_ hHeld (by rintro w' ⟨s0, s1, s2, s3, s4, s5, s6, s7, s8, s9, S0, T0, U0⟩; go_simp; with_reducible rfl) ?_
   refine zP 20 67 (bl 22 2097151) HT_ ?_
   refine zP 21 68 (bl 22 4194303) HT_ ?_
   refine done_ (done_of HT_.out (by kernel_rfl)) ?_
   try go_wp2
   go_roundg k2
   case measure => have := o5.out; have := q5.out; omega
   case rel => exact ⟨(wrap64 (q + 1)), zR, H', ⟨by have := o5.out; have := q5.out; omega⟩, ⟨zM l⟩, ⟨zB⟩⟩
end Go.Proofs.Ytmcboiffbcnalaa.PFnExactLives
