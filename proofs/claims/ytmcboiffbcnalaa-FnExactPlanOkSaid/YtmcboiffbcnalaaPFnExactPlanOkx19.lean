-- Printed out of the translation by this session's own turned copy of a printer; Lean checks it.
import Derived.Test.YtmcboiffbcnalaaPFnExactPlanOkx0
import Derived.Test.YtmcboiffbcnalaaPFnExactPlanOkx16
import Derived.Test.YtmcboiffbcnalaaPFnExactPlanOkx17
import Derived.Test.YtmcboiffbcnalaaPFnExactPlanOkx18
namespace Go.Proofs.Ytmcboiffbcnalaa.PFnExactPlanOk
open Go.RowKit Go.Proofs.YtmcboiffbcnalaaW.PrintWords Go.Proofs.YtmcboiffbcnalaaW.PrintLast Go.Proofs.YtmcboiffbcnalaaW.PrintMore
attribute [local go_sem] max2_int min2_int max_two min_two max_three min_three max_four min_four
set_option linter.unusedVariables false
set_option linter.unusedSimpArgs false
set_option maxHeartbeats 8000000
set_option maxRecDepth 100000
mutual
def impl_Nest_kernelOk.j0 : Nat → List Bool → Int → Bool → List Int → List Int → List (S71) → List (S79) → List Int → List Int → List (S76) → Int → Int → List Int → Bool → List (S122) → Option (Int × Bool)
 | 0, _, _, _, _, _, _, _, _, _, _, _, _, _, _, _ => none
 | k + 1, T, U, O, x, y, z, A, B, D, a, l, q, u, E, I => if O = true then (some (0, false)) else ((impl_Access.f a).bind fun J => ((some (([(⟨l, q, u⟩ : S76)] : List (S76)) : List (S76))).bind fun L => (if J.length + L.length < 3518437208883 then ((some (J ++ L : List (S76))).bind fun M => (impl_Nest_kernelOk.l0 k T U M (M.length : Int) 0 x y z A B D a l q u E I)) else (none))))
def impl_Nest_kernelOk.l0 : Nat → List Bool → Int → List (S76) → Int → Int → List Int → List Int → List (S71) → List (S79) → List Int → List Int → List (S76) → Int → Int → List Int → Bool → List (S122) → Option (Int × Bool)
 | 0, _, _, _, _, _, _, _, _, _, _, _, _, _, _, _, _, _ => none
 | k + 1, O, T, x, M, q, a, E, I, J, L, u, l, y, z, A, B, D => if q < M then (if 0 ≤ q then (if q < (x.length : Int) then (if ((rd_T76 x q).f0) < 0 then (impl_Nest_kernelOk.j2 k O T x M q true a E I J L u l y z A B D) else (if ((rd_T76 x q).f0) ≥ (a.length : Int) then (impl_Nest_kernelOk.j2 k O T x M q true a E I J L u l y z A B D) else (if 0 ≤ ((rd_T76 x q).f0) then (if ((rd_T76 x q).f0) < (a.length : Int) then ((impl_Access_fitsIn.f k ((rd_T76 x q).f0) ((rd_T76 x q).f1) ((rd_T76 x q).f2) u (rd a ((rd_T76 x q).f0))).bind fun U => (impl_Nest_kernelOk.j2 k O T x M q (!U) a E I J L u l y z A B D)) else (none)) else (none)))) else (none)) else (none)) else (impl_Nest_kernelOk.l1 k O T l (l.length : Int) 0 u l y z A B D)
def impl_Nest_kernelOk.j2 : Nat → List Bool → Int → List (S76) → Int → Int → Bool → List Int → List Int → List (S71) → List (S79) → List Int → List Int → List (S76) → Int → Int → List Int → Bool → List (S122) → Option (Int × Bool)
 | 0, _, _, _, _, _, _, _, _, _, _, _, _, _, _, _, _, _, _ => none
 | k + 1, T, U, J, L, M, O, a, l, q, u, x, y, z, A, B, D, E, I => if O = true then (some (0, false)) else (impl_Nest_kernelOk.l0 k T U J L (wrap64 (M + 1)) a l q u x y z A B D E I)
def impl_Nest_kernelOk.l1 : Nat → List Bool → Int → List (S76) → Int → Int → List Int → List (S76) → Int → Int → List Int → Bool → List (S122) → Option (Int × Bool)
 | 0, _, _, _, _, _, _, _, _, _, _, _, _ => none
 | k + 1, E, I, B, D, l, q, u, a, x, y, z, A => if l < D then (if 0 ≤ l then (if l < (B.length : Int) then (if ((rd_T76 B l).f0) = a then (some (0, false)) else (impl_Nest_kernelOk.l1 k E I B D (wrap64 (l + 1)) q u a x y z A)) else (none)) else (none)) else (if 0 ≤ a then (if a < (E.length : Int) then (some (I, !(rdOf false E a))) else (none)) else (none))
end
def impl_Nest_kernelOk.f (k : Nat) (x : List Int) (y : List Int) (z : List (S71)) (A : List (S79)) (B : List Int) (q : List Int) (l : List (S76)) (D : Int) (E : Int) (I : List Int) (J : Bool) (u : List (S122)) (L : List Bool) : Option (Int × Bool) := (impl_work.f k q).bind fun a => (if a.2 = true then (if (l.length : Int) > 30 then (impl_Nest_kernelOk.j0 k L a.1 true x y z A B q l D E I J u) else ((impl_codeOk.f k u (l.length : Int)).bind fun M => (impl_Nest_kernelOk.j0 k L a.1 (!M) x y z A B q l D E I J u))) else (impl_Nest_kernelOk.j0 k L a.1 true x y z A B q l D E I J u))
def impl_Nest_kernelOk.T4 : Bool × List (List Nat × List Nat) := (true, [([], []), ([0], [0]), ([1], [1]), ([], []), ([3], [3]), ([4], [4]), ([2, 5, 2], [2, 5]), ([6], [6]), ([], [])])
def impl_Nest_kernelOk.B4 : List Nat := [0, 1, 3, 0, 8, 24, 63, 127, 0]
theorem impl_Nest_kernelOk.tab4 : rtab .any (opsOf Try.f48 4) = impl_Nest_kernelOk.T4 := by kernel_rfl
theorem impl_Nest_kernelOk.bits4 : waitsOk impl_Nest_kernelOk.T4.2 impl_Nest_kernelOk.B4 = true := by kernel_rfl
def impl_Nest_kernelOk.T7 : Bool × List (List Nat × List Nat) := (true, [([], []), ([0], [0]), ([1], [1]), ([2], [2]), ([3], [3]), ([4, 3], [3, 4]), ([3], [3]), ([6, 3], [3, 6]), ([7, 3], [3, 7]), ([5, 8, 3], [3, 5, 8]), ([3, 9], [3, 9]), ([10, 3], [10]), ([11], [11]), ([11], [11]), ([13, 11], [11, 13]), ([11], [11]), ([15, 11], [11, 15]), ([11], [11]), ([17, 11], [11, 17]), ([16, 18, 11], [11, 16, 18]), ([19, 11], [11, 19]), ([12, 14, 20, 11, 11], [11, 12, 14, 20]), ([21, 11], [11, 21]), ([11, 22], [11, 22])])
def impl_Nest_kernelOk.B7 : List Nat := [0, 1, 3, 7, 15, 31, 15, 79, 207, 511, 1023, 2047, 4095, 4095, 12287, 4095, 36863, 4095, 135167, 495615, 1019903, 2097151, 4194303, 8388607]
theorem impl_Nest_kernelOk.tab7 : rtab .any (opsOf Try.f48 7) = impl_Nest_kernelOk.T7 := by kernel_rfl
theorem impl_Nest_kernelOk.bits7 : waitsOk impl_Nest_kernelOk.T7.2 impl_Nest_kernelOk.B7 = true := by kernel_rfl
def impl_Nest_kernelOk.T16 : Bool × List (List Nat × List Nat) := (true, [([], []), ([], []), ([], []), ([2], [2]), ([3], [3]), ([1, 4], [1, 4]), ([5], [5]), ([6], [6]), ([0, 0], [0]), ([7, 8, 0, 1, 2, 3, 4, 5, 6, 7, 8], [7])])
def impl_Nest_kernelOk.B16 : List Nat := [0, 0, 0, 4, 12, 30, 62, 126, 1, 511]
theorem impl_Nest_kernelOk.tab16 : rtab .any (opsOf Try.f48 16) = impl_Nest_kernelOk.T16 := by kernel_rfl
theorem impl_Nest_kernelOk.bits16 : waitsOk impl_Nest_kernelOk.T16.2 impl_Nest_kernelOk.B16 = true := by kernel_rfl
theorem impl_Nest_kernelOk.calls (k) (x1) (g1) (c0 : List Int) (i1) (j1) (y0 : List Int) (m1) (n1) (A0 : List (S71)) (o1) (p1) (B0 : List (S79)) (q1) (t1) (C0 : List Int) (I0) (J0) (a0 : List Int) (E : Nat → Prop) (p0) (q0) (D : List (S76)) (O) (X) (I : Nat → Prop) (n0) (o0) (J : List Int) (x0 : Bool) (O0) (R0) (b0 : List (S122)) (A2) (c2) (l2 : List Bool) (r1) (r2 : Bool) (w) (p5 : Kd.C (Kd.int .i64) w x1 c0.length c0) (q5 : c0.length ≤ g1) (t5 : Kd.C (Kd.int .i64) w i1 y0.length y0) (x5 : y0.length ≤ j1) (y5 : Kd.C k71 w m1 A0.length A0) (A5 : A0.length ≤ n1) (B5 : Kd.C k79 w o1 B0.length B0) (C5 : B0.length ≤ p1) (D5 : Kd.C (Kd.int .i64) w q1 C0.length C0) (E5 : C0.length ≤ t1) (F5 : Kd.C (Kd.int .i64) w I0 a0.length a0) (G5 : a0.length ≤ J0) (b7 : Kd.V k76 76 w w.heap.size (fun k_ => E k_) (.slice p0 D.length q0) D) (d7 : Kd.V (Kd.int .i64) 3 w w.heap.size (fun k_ => I k_) (.slice n0 J.length o0) J) (I5 : Kd.C k122 w O0 b0.length b0) (J5 : b0.length ≤ R0) (q7 : Kd.C Kd.bool w A2 l2.length l2) (t7 : l2.length ≤ c2) (h : impl_Nest_kernelOk.f k c0 y0 A0 B0 C0 a0 D O X J x0 b0 l2 = some (r1, r2)) :
 Calls Try.prog 48 #[.agg #[.slice x1 c0.length g1, .slice i1 y0.length j1, .slice m1 A0.length n1, .slice o1 B0.length p1, .slice q1 C0.length t1], .agg #[.slice I0 a0.length J0, .slice p0 D.length q0, .int .i64 O, .int .i64 X, .slice n0 J.length o0, .bool x0, .slice O0 b0.length R0], .slice A2 l2.length c2] w fun e w' => e = .returned (.tuple #[.int .i64 r1, .bool r2]) ∧ Below w.heap.size w w' := by
 have a1p := Try.underlying34
 have a1q := Try.underlying79
 have a1s := Try.underlying76
 have e7 := zK p5
 have J9 := zK q5
 clear p5 q5
 have L9 := zK t5
 have M9 := zK x5
 clear t5 x5
 have N9 := zK y5
 have O9 := zK A5
 clear y5 A5
 have R9 := zK B5
 have S9 := zK C5
 clear B5 C5
 have T9 := zK D5
 have U9 := zK E5
 clear D5 E5
 have L5 := zK F5
 have M5 := zK G5
 clear F5 G5
 have V0 := zK (show Kd.V k76 76 w w.heap.size (fun k_ => ((E k_ ∨ I k_) ∨ w.heap.size ≤ k_)) (.slice p0 D.length q0) D from Kd.V_mono b7 (fun k_ hk => .inl (.inl hk)))
 have X0 := zK (show Kd.V (Kd.int .i64) 3 w w.heap.size (fun k_ => ((E k_ ∨ I k_) ∨ w.heap.size ≤ k_)) (.slice n0 J.length o0) J from Kd.V_mono d7 (fun k_ hk => .inl (.inr hk)))
 have f7 := zK I5
 have g7 := zK J5
 clear I5 J5
 have o9 := zK q7
 have HC2 := zK t7
 clear q7 t7
 have HB := zK (Below.refl w.heap.size w)
 have H : ((impl_work.f k a0).bind fun G2 => (if G2.2 = true then (if (D.length : Int) > 30 then (impl_Nest_kernelOk.j0 k l2 G2.1 true c0 y0 A0 B0 C0 a0 D O X J x0 b0) else ((impl_codeOk.f k b0 (D.length : Int)).bind fun y2 => (impl_Nest_kernelOk.j0 k l2 G2.1 (!y2) c0 y0 A0 B0 C0 a0 D O X J x0 b0))) else (impl_Nest_kernelOk.j0 k l2 G2.1 true c0 y0 A0 B0 C0 a0 D O X J x0 b0))) = some (r1, r2) := h
 clear h
 replace H := z6 H
 obtain ⟨⟨B1, f5⟩, x7, H⟩ := H
 replace H : (if f5 = true then (if (D.length : Int) > 30 then (impl_Nest_kernelOk.j0 k l2 B1 true c0 y0 A0 B0 C0 a0 D O X J x0 b0) else ((impl_codeOk.f k b0 (D.length : Int)).bind fun y2 => (impl_Nest_kernelOk.j0 k l2 B1 (!y2) c0 y0 A0 B0 C0 a0 D O X J x0 b0))) else (impl_Nest_kernelOk.j0 k l2 B1 true c0 y0 A0 B0 C0 a0 D O X J x0 b0)) = some (r1, r2) := H
 have A4 := zK x7
 clear x7
 have I6 := zK H
 clear H
 go_enter Try.func48, Try.ntmps48
 go_upto_region 2 with (first | ((with_reducible refine gd 3 rfl ?_); (try (refine gate_guard (by rfl) ?_; dsimp only)); refine zJ 3 #[.slice x1 c0.length g1, .slice i1 y0.length j1, .slice m1 A0.length n1, .slice o1 B0.length p1, .slice q1 C0.length t1] 34 ?_; intro B hg w6 hbox hb; have d0 := zK (Kd.V_below (Kd.V_elderB (zkV V0) B (Nat.le_of_eq hg.symm)) hb); have e0 := zK (Kd.V_below (Kd.V_elderB (zkV X0) B (Nat.le_of_eq hg.symm)) hb); have g0 := z8 hb; have i0 := zK (hbox); have m0 := z9 hg; have t0 := z9 hg; revert d0 e0 g0 i0 m0 t0; clear V0 X0 HB; intro V0 X0 HB z V9 X9; clear hb hbox hg) | ((with_reducible refine gd 4 rfl ?_); (try (refine gate_guard (by rfl) ?_; dsimp only)); refine zJ 4 #[.slice I0 a0.length J0, .slice p0 D.length q0, .int .i64 O, .int .i64 X, .slice n0 J.length o0, .bool x0, .slice O0 b0.length R0] 79 ?_; intro A hg w7 hbox hb; have d0 := zK (Kd.V_below (Kd.V_elderB (zkV V0) A (Nat.le_of_eq hg.symm)) hb); have e0 := zK (Kd.V_below (Kd.V_elderB (zkV X0) A (Nat.le_of_eq hg.symm)) hb); have g0 := z7 z hb; have i0 := z8 hb; have m0 := zK (hbox); have t0 := z9 hg; have D0 := z9 hg; have N0 := zHH hg z; have J2 := zGG hg z; revert d0 e0 g0 i0 m0 t0 D0 N0 J2; clear V0 X0 z HB; intro V0 X0 z HB a a0a a0b d1 e1; clear hb hbox hg; have a1u := e1.out; have a1x := d1.out; obtain ⟨x4, y4, B4, C4, D4, E4, F4, G4, I4, J4, L4, M4, N4, O4⟩ := zc7 a) | ((with_reducible refine gc 67 rfl ?_); refine zF 17 Try.func67 #[.slice I0 a0.length J0] rfl zL ?_; refine (impl_work.calls k _ _ a0 B1 f5 _ (zS L5) M5.out A4.out).mono ?_; rintro e w' ⟨rfl, ⟨nd, rfl⟩⟩; refine ⟨_, rfl, ?_⟩))
 (try simp only [Act.put, zq1, zq2, zq3])
 go_cut [36] (fun v36 wc => ∃ (kq : Nat) (I2 : Bool), v36 = .bool I2 ∧ Aside0 (impl_Nest_kernelOk.j0 kq l2 B1 I2 c0 y0 A0 B0 C0 a0 D O X J x0 b0 = some (r1, r2)) ∧ Aside0 (kq ≤ k) ∧ Aside0 (Kd.V k76 76 wc w.heap.size (fun k_ => ((E k_ ∨ I k_) ∨ w.heap.size ≤ k_) ∧ k_ ≠ B ∧ k_ ≠ A) (.slice p0 D.length q0) D) ∧ Aside0 (Kd.V (Kd.int .i64) 3 wc w.heap.size (fun k_ => ((E k_ ∨ I k_) ∨ w.heap.size ≤ k_) ∧ k_ ≠ B ∧ k_ ≠ A) (.slice n0 J.length o0) J) ∧ Aside0 (wc.heap[B]? = some (.cells #[(.slice x1 c0.length g1), (.slice i1 y0.length j1), (.slice m1 A0.length n1), (.slice o1 B0.length p1), (.slice q1 C0.length t1)] 34 (0, 0))) ∧ Aside0 (wc.heap[A]? = some (.cells #[(.slice I0 a0.length J0), (.slice p0 D.length q0), .int .i64 O, .int .i64 X, (.slice n0 J.length o0), .bool x0, (.slice O0 b0.length R0)] 79 (0, 0))) ∧ Aside0 (Below w.heap.size w wc))
 case first =>
  have H := I6.out
  clear I6
  by_cases m3 : f5 = true
  rotate_left
  · replace m3 := Bool.eq_false_iff.mpr m3
    subst m3
    rw [if_neg (show ¬ (false = true) by decide)] at H
    have H' := zK H
    clear H
    go_wp2
    go_meet
    case rel => exact ⟨_, (true), zR, H', ⟨by first | omega | exact Nat.le_refl _⟩, ⟨Kd.V_mono (zlV V0.out) (fun _ hk => ⟨hk.1.1, ⟨hk.1.2, hk.2⟩⟩)⟩, ⟨Kd.V_mono (zlV X0.out) (fun _ hk => ⟨hk.1.1, ⟨hk.1.2, hk.2⟩⟩)⟩, ⟨zM z⟩, ⟨zM a⟩, ⟨zB⟩⟩
  subst m3
  rw [if_pos rfl] at H
  by_cases C2 : (D.length : Int) > 30
  · as_aux_lemma =>
    rw [if_pos C2] at H
    have F1 := z1 C2
    have l4 : decide (30 < D.length) = true := z1 (by omega)
    clear C2
    (first | rw [F1] | (simp only [i64_w, i32_w]; rw [F1]) | skip)
    have H' := zK H
    clear H
    have a0c := e1.out
    have a0d := d1.out
    obtain ⟨n3, o3, p3, q3, t3, x3, y3, A3, B3, C3, D3, E3, F3, G3⟩ := zc7 a
    go_wp2
    go_meet
    case rel => exact ⟨_, (true), zR, H', ⟨by first | omega | exact Nat.le_refl _⟩, ⟨Kd.V_mono (zlV V0.out) (fun _ hk => ⟨hk.1.1, ⟨hk.1.2, hk.2⟩⟩)⟩, ⟨Kd.V_mono (zlV X0.out) (fun _ hk => ⟨hk.1.1, ⟨hk.1.2, hk.2⟩⟩)⟩, ⟨zM z⟩, ⟨zM a⟩, ⟨zB⟩⟩
  rw [if_neg C2] at H
  have F1 := z2 C2
  have l4 : decide (30 < D.length) = false := z2 (by omega)
  clear C2
  (first | rw [F1] | (simp only [i64_w, i32_w]; rw [F1]) | skip)
  replace H := z6 H
  obtain ⟨y2, J6, H⟩ := H
  have p9 := zK J6
  clear J6
  have H' := zK H
  clear H
  have a0e := e1.out
  have a0f := d1.out
  obtain ⟨I3, J3, L3, M3, N3, O3, R3, S3, T3, U3, V3, X3, a4, b4⟩ := zc7 a
  go_wp2_with (first | (go_at_call 68; (with_reducible refine (impl_codeOk.calls k _ _ b0 (D.length : Int) y2 _ ?side1 ?side2 p9.out).mono ?_); (case side1 => exact zS f7); (case side2 => exact g7.out); rintro e w17 ⟨rfl, hb⟩; have d0 := zK (Kd.V_below (zkV V0) hb); have e0 := zK (Kd.V_below (zkV X0) hb); have g0 := z7 z hb; have i0 := z7 a hb; have m0 := z8 hb; revert d0 e0 g0 i0 m0; clear V0 X0 z a HB; intro V0 X0 z a HB))
  go_meet
  case rel => exact ⟨_, (!y2), zR, H', ⟨by first | omega | exact Nat.le_refl _⟩, ⟨Kd.V_mono (zlV V0.out) (fun _ hk => ⟨hk.1.1, ⟨hk.1.2, hk.2⟩⟩)⟩, ⟨Kd.V_mono (zlV X0.out) (fun _ hk => ⟨hk.1.1, ⟨hk.1.2, hk.2⟩⟩)⟩, ⟨zM z⟩, ⟨zM a⟩, ⟨zB⟩⟩
 case rest =>
  clear I6
  try clear c1
  try clear c2
  try clear p2
  try clear c4
  try clear c6
  try clear c8
  try clear m3
  try clear C2
  try clear F1
  try clear l4
  try clear q9
  try clear t9
  try clear n3 o3 p3 q3 t3 x3 y3 A3 B3 C3 D3 E3 F3 G3
  try clear I3 J3 L3 M3 N3 O3 R3 S3 T3 U3 V3 X3 a4 b4
  try clear x4 y4 B4 C4 D4 E4 F4 G4 I4 J4 L4 M4 N4 O4
  obtain ⟨kq, I2, rfl, HA, L2, u, q, z, a, HB⟩ := hcut
  cases kq with
  | zero => exact absurd HA.out (by simp [impl_Nest_kernelOk.j0])
  | succ N5 =>
   have H := HA.out
   clear HA
   simp only [impl_Nest_kernelOk.j0] at H
   by_cases R4 : I2 = true
   · subst R4
     rw [if_pos rfl] at H
     simp only [Option.some.injEq, Prod.mk.injEq] at H
     obtain ⟨rfl, rfl⟩ := H
     go_wp2
     go_ret2
     exact ⟨zE, zB⟩
   replace R4 := Bool.eq_false_iff.mpr R4
   subst R4
   rw [if_neg (show ¬ (false = true) by decide)] at H
   replace H := z6 H
   obtain ⟨G1, M6, H⟩ := H
   have y7 := zK M6
   clear M6
   obtain ⟨I1, i2⟩ : ∃ y_ : List (S76), y_ = (([(⟨O, X, J⟩ : S76)] : List (S76))) := ⟨_, rfl⟩
   replace H : (if G1.length + I1.length < 3518437208883 then ((some (G1 ++ I1 : List (S76))).bind fun x => (impl_Nest_kernelOk.l0 N5 l2 B1 x (x.length : Int) 0 c0 y0 A0 B0 C0 a0 D O X J x0 b0)) else (none)) = some (r1, r2) := by first | (rw [i2]; with_reducible exact H) | (have M2 := (Option.bind_some _ _).symm.trans H; rw [i2]; with_reducible exact M2) | (have M2 := (Option.bind_some _ _).symm.trans H; with_reducible exact M2) | with_reducible exact H | (rw [i2]; exact H) | exact H
   have Ny405 := zK i2
   clear i2
   by_cases S4 : G1.length + I1.length < 3518437208883
   rotate_left
   · rw [if_neg S4] at H
     exact absurd H (by simp)
   rw [if_pos S4] at H
   have LMc20 := zK S4
   clear S4
   obtain ⟨x, m2⟩ : ∃ y_ : List (S76), y_ = (G1 ++ I1) := ⟨_, rfl⟩
   replace H : (impl_Nest_kernelOk.l0 N5 l2 B1 x (x.length : Int) 0 c0 y0 A0 B0 C0 a0 D O X J x0 b0) = some (r1, r2) := by first | (rw [m2]; with_reducible exact H) | (have M2 := (Option.bind_some _ _).symm.trans H; rw [m2]; with_reducible exact M2) | (have M2 := (Option.bind_some _ _).symm.trans H; with_reducible exact M2) | with_reducible exact H | (rw [m2]; exact H) | exact H
   have Ny408 := zK m2
   clear m2
   have H' := zK H
   clear H
   try go_wp2
   have d0 := zK (Kd.V_drew u.out)
   have e0 := zK (Kd.V_drew q.out)
   have g0 := zK (zd z.out)
   have i0 := zK (zd a.out)
   have m0 := zK (ze HB.out)
   revert d0 e0 g0 i0 m0
   clear u q z a HB
   intro u q z a HB
   refine start_ (n := 9) (S := fun w' => w'.cell? ⟨A, 0, none⟩ = some (.slice I0 a0.length J0) ∧ w'.cell? ⟨A, 1, none⟩ = some (.slice p0 D.length q0) ∧ w'.cell? ⟨A, 2, none⟩ = some (.int .i64 O) ∧ w'.cell? ⟨A, 3, none⟩ = some (.int .i64 X) ∧ w'.cell? ⟨A, 4, none⟩ = some (.slice n0 J.length o0) ∧ w'.cell? ⟨A, 5, none⟩ = some (.bool x0) ∧ w'.cell? ⟨A, 6, none⟩ = some (.slice O0 b0.length R0)) (ds := []) (bl 9 0) (by kernel_rfl) rfl (by kernel_rfl) ⟨zy a 0, zy a 1, zy a 2, zy a 3, zy a 4, zy a 5, zy a 6⟩ (fun hHeld => ?_); refine with_tabW impl_Nest_kernelOk.tab4 impl_Nest_kernelOk.bits4 (fun HT_ HW_ => ?_)
   generalize wc.drew = x9 at u q z a HB hHeld ⊢
   refine zP 0 37 (bl 9 1) HT_ ?_
   refine zP 3 40 (bl 9 9) HT_ ?_
   refine zP 8 45 (bl 9 265) HT_ ?_
   refine zT 1 38 (bl 9 267) rfl rfl HT_ HW_ hHeld (by rintro w' ⟨s0, s1, s2, s3, s4, s5, s6⟩; go_simp; with_reducible rfl) ?_
   refine zT 4 41 (bl 9 283) rfl rfl HT_ HW_ hHeld (by rintro w' ⟨s0, s1, s2, s3, s4, s5, s6⟩; go_simp; with_reducible rfl) ?_
   refine join_ (σ := Value × Value) 2 (bl 9 319) (fun s_ => [(39, s_.1), (42, s_.2)]) (fun s_ w' => (w'.cell? ⟨A, 0, none⟩ = some (.slice I0 a0.length J0) ∧ w'.cell? ⟨A, 1, none⟩ = some (.slice p0 D.length q0) ∧ w'.cell? ⟨A, 2, none⟩ = some (.int .i64 O) ∧ w'.cell? ⟨A, 3, none⟩ = some (.int .i64 X) ∧ w'.cell? ⟨A, 4, none⟩ = some (.slice n0 J.length o0) ∧ w'.cell? ⟨A, 5, none⟩ = some (.bool x0) ∧ w'.cell? ⟨A, 6, none⟩ = some (.slice O0 b0.length R0)) ∧ (Kd.N k76 76 w' w.heap.size (fun k_ => ((E k_ ∨ I k_) ∨ w.heap.size ≤ k_) ∧ some k_ ≠ (s_.2 : Value).ownBlock ∧ k_ ≠ B ∧ k_ ≠ A) s_.1 G1) ∧ (Kd.N k76 76 w' w.heap.size (fun k_ => ((E k_ ∨ I k_) ∨ w.heap.size ≤ k_) ∧ some k_ ≠ (s_.1 : Value).ownBlock ∧ k_ ≠ B ∧ k_ ≠ A) s_.2 I1) ∧ (Kd.V k76 76 w' w.heap.size (fun k_ => ((E k_ ∨ I k_) ∨ w.heap.size ≤ k_) ∧ some k_ ≠ (s_.1 : Value).ownBlock ∧ some k_ ≠ (s_.2 : Value).ownBlock ∧ k_ ≠ B ∧ k_ ≠ A) (.slice p0 D.length q0) D) ∧ (Kd.V (Kd.int .i64) 3 w' w.heap.size (fun k_ => ((E k_ ∨ I k_) ∨ w.heap.size ≤ k_) ∧ some k_ ≠ (s_.1 : Value).ownBlock ∧ some k_ ≠ (s_.2 : Value).ownBlock ∧ k_ ≠ B ∧ k_ ≠ A) (.slice n0 J.length o0) J) ∧ (w'.heap[B]? = some (.cells #[.slice x1 c0.length g1, .slice i1 y0.length j1, .slice m1 A0.length n1, .slice o1 B0.length p1, .slice q1 C0.length t1] 34 (0, 0))) ∧ (w'.heap[A]? = some (.cells #[.slice I0 a0.length J0, .slice p0 D.length q0, .int .i64 O, .int .i64 X, .slice n0 J.length o0, .bool x0, .slice O0 b0.length R0] 79 (0, 0))) ∧ (Below w.heap.size w w')) ?_ ?_
   rotate_left
   · as_aux_lemma =>
     intro hCont
     refine two_ (i := 2) (j := 5) (Ni := some 39) (Nj := some 42) (bl 9 287) (bl 9 315) rfl rfl rfl rfl (two_of HT_.out (by kernel_rfl)) (by decide) (by decide) (fun K hK => ?_) (fun K hK => ?_)
     · as_aux_lemma =>
       skip
       refine goes_ Try.func69 (by kernel_rfl) rfl #[.slice p0 D.length q0] (by rfl) rfl rfl zL ?_
       refine (impl_Access.calls (fun k_ => (((E k_ ∨ I k_) ∨ w.heap.size ≤ k_) ∧ (k_ ≠ B ∧ k_ ≠ A))) _ _ D G1 _ u.out y7.out).mono ?_
       rintro e A7 ⟨v403, rfl, a2, hb⟩
       refine ⟨_, rfl, ?_⟩
       have d0 := zK (Kd.V_elder' (zkV u) (Kd.N_base a2) hb)
       have e0 := zK (Kd.V_elder' (zkV q) (Kd.N_base a2) hb)
       have g0 := zK (Kd.N_lower (Kd.N_mono (ok' := fun k_ => ((E k_ ∨ I k_) ∨ w.heap.size ≤ k_) ∧ k_ ≠ B ∧ k_ ≠ A) a2 (fun k_ hk_ => ⟨Or.elim hk_ (fun hs_ => hs_.1) (fun hn_ => (.inr (Nat.le_trans (zz zB) hn_))), Or.elim hk_ (fun hs_ => hs_.2.1) (fun hn_ => (Kd.freshB (zM z) k_ hn_)), Or.elim hk_ (fun hs_ => hs_.2.2) (fun hn_ => (Kd.freshB (zM a) k_ hn_))⟩)) (zz zB))
       have i0 := z7 z hb
       have m0 := z7 a hb
       have t0 := z8 hb
       revert d0 e0 g0 i0 m0 t0
       clear u q z a HB
       intro u q a1 z a HB
       (try clear hb)
       (try clear hb2)
       (try clear hk)
       (try clear hi)
       (try clear a2)
       refine hK.out _ _ ⟨zy a 0, zy a 1, zy a 2, zy a 3, zy a 4, zy a 5, zy a 6⟩ (fun hHeld => ?_)
       clear hK K
       refine zU 39 ?_
       refine one_ (i := 5) (N := some 42) (bl 9 319) rfl rfl (one_of HT_.out (by kernel_rfl)) (by decide) (fun K hK => ?_)
       refine Kd.N_lit_step k76 _ 76 ?hg (N' := 42) ?hd (xs := ([(⟨O, X, J⟩ : S76)] : List (S76))) (inner := [.int .i64 O, .int .i64 X, .slice n0 J.length o0]) (ok := (fun k_ => ((E k_ ∨ I k_) ∨ w.heap.size ≤ k_) ∧ some k_ ≠ (v403 : Value).ownBlock ∧ k_ ≠ B ∧ k_ ≠ A)) (okp := (fun k_ => ((E k_ ∨ I k_) ∨ w.heap.size ≤ k_) ∧ some k_ ≠ (v403 : Value).ownBlock ∧ k_ ≠ B ∧ k_ ≠ A)) ?hr ?hp (fun _ hk => hk) ((show ∀ k_, A7.heap.size ≤ k_ → (fun k_ => ((E k_ ∨ I k_) ∨ w.heap.size ≤ k_) ∧ some k_ ≠ (v403 : Value).ownBlock ∧ k_ ≠ B ∧ k_ ≠ A) k_ from fun k_ hk => ⟨(.inr (Nat.le_trans (zz zB) hk)), Kd.fresh' (Kd.N_lt (zkN a1)) k_ hk, Kd.freshB (zM z) k_ hk, Kd.freshB (zM a) k_ hk⟩) _ (Nat.le_refl _)) (Below.refl _ _) (Nat.le_refl _) (by simp) ?_; (case hd => rfl); (case hg => rfl); (case hr => first | (go_simp; done) | (go_simp; rfl)); (case hp => exact (Reps.c3 (show Kd.FK k76 _ _ (⟨O, X, J⟩ : S76) [.int .i64 O, .int .i64 X, .slice n0 J.length o0] from (k76_mkF _ _ (⟨O, X, J⟩ : S76) (Kd.V_reads' (Kd.V_mono (ok' := (fun k_ => ((E k_ ∨ I k_) ∨ w.heap.size ≤ k_) ∧ some k_ ≠ (v403 : Value).ownBlock ∧ k_ ≠ B ∧ k_ ≠ A)) (q.out) (fun k_ hk => ⟨hk.1.1, ⟨hk.2, ⟨hk.1.2.1, hk.1.2.2⟩⟩⟩))).2.1 (Kd.V_F (Kd.V_mono (ok' := (fun k_ => ((E k_ ∨ I k_) ∨ w.heap.size ≤ k_) ∧ some k_ ≠ (v403 : Value).ownBlock ∧ k_ ≠ B ∧ k_ ≠ A)) (q.out) (fun k_ hk => ⟨hk.1.1, ⟨hk.2, ⟨hk.1.2.1, hk.1.2.2⟩⟩⟩))))) (Reps.none _ _)))
       intro v406 w23 N1 hb hg_ hnew_
       clear hg_ hnew_
       (first | rw [← Ny405.out] at N1 | (simp only [Int.reduceToNat] at N1; rw [← Ny405.out] at N1))
       have d0 := zK (Kd.V_elder' (zkV u) (Kd.N_base N1) hb)
       have e0 := zK (Kd.V_elder' (zkV q) (Kd.N_base N1) hb)
       have g0 := zK (Kd.N_elder' (zkN a1) (Kd.N_base N1) hb)
       have i0 := zK (Kd.N_lower N1 (zz zB))
       have m0 := z7 z hb
       have t0 := z7 a hb
       have D0 := z8 hb
       revert d0 e0 g0 i0 m0 t0 D0
       clear u q a1 z a HB
       intro u q a1 S0 z a HB
       clear hb N1
       refine hK.out _ _ ⟨zy a 0, zy a 1, zy a 2, zy a 3, zy a 4, zy a 5, zy a 6⟩ (fun hHeld => ?_)
       clear hK K
       refine zU 42 ?_
       exact norm_ (by simp only [putAll, Act.put, zq1, zq2, zq3]) (hCont (v403, v406) _ ⟨hHeld, (Kd.N_mono (zlN a1.out) (fun _ hk => ⟨hk.1.1, ⟨hk.2, ⟨hk.1.2.1, hk.1.2.2⟩⟩⟩)), (zkN S0), (Kd.V_mono (zlV u.out) (fun _ hk => ⟨hk.1.1.1, ⟨hk.1.2, ⟨hk.2, ⟨hk.1.1.2.1, hk.1.1.2.2⟩⟩⟩⟩)), (Kd.V_mono (zlV q.out) (fun _ hk => ⟨hk.1.1.1, ⟨hk.1.2, ⟨hk.2, ⟨hk.1.1.2.1, hk.1.1.2.2⟩⟩⟩⟩)), (zM z), (zM a), zB⟩)
     · as_aux_lemma =>
       skip
       refine Kd.N_lit_step k76 _ 76 ?hg (N' := 42) ?hd (xs := ([(⟨O, X, J⟩ : S76)] : List (S76))) (inner := [.int .i64 O, .int .i64 X, .slice n0 J.length o0]) (ok := (fun k_ => ((E k_ ∨ I k_) ∨ w.heap.size ≤ k_) ∧ k_ ≠ B ∧ k_ ≠ A)) (okp := (fun k_ => ((E k_ ∨ I k_) ∨ w.heap.size ≤ k_) ∧ k_ ≠ B ∧ k_ ≠ A)) ?hr ?hp (fun _ hk => hk) ((show ∀ k_, x9.heap.size ≤ k_ → (fun k_ => ((E k_ ∨ I k_) ∨ w.heap.size ≤ k_) ∧ k_ ≠ B ∧ k_ ≠ A) k_ from fun k_ hk => ⟨(.inr (Nat.le_trans (zz zB) hk)), Kd.freshB (zM z) k_ hk, Kd.freshB (zM a) k_ hk⟩) _ (Nat.le_refl _)) (Below.refl _ _) (Nat.le_refl _) (by simp) ?_; (case hd => rfl); (case hg => rfl); (case hr => first | (go_simp; done) | (go_simp; rfl)); (case hp => exact (Reps.c3 (show Kd.FK k76 _ _ (⟨O, X, J⟩ : S76) [.int .i64 O, .int .i64 X, .slice n0 J.length o0] from (k76_mkF _ _ (⟨O, X, J⟩ : S76) (Kd.V_reads' (Kd.V_mono (ok' := (fun k_ => ((E k_ ∨ I k_) ∨ w.heap.size ≤ k_) ∧ k_ ≠ B ∧ k_ ≠ A)) (q.out) (fun k_ hk => ⟨hk.1, ⟨hk.2.1, hk.2.2⟩⟩))).2.1 (Kd.V_F (Kd.V_mono (ok' := (fun k_ => ((E k_ ∨ I k_) ∨ w.heap.size ≤ k_) ∧ k_ ≠ B ∧ k_ ≠ A)) (q.out) (fun k_ hk => ⟨hk.1, ⟨hk.2.1, hk.2.2⟩⟩))))) (Reps.none _ _)))
       intro v406 A7 g2 hb hg_ hnew_
       clear hg_ hnew_
       (first | rw [← Ny405.out] at g2 | (simp only [Int.reduceToNat] at g2; rw [← Ny405.out] at g2))
       have d0 := zK (Kd.V_elder' (zkV u) (Kd.N_base g2) hb)
       have e0 := zK (Kd.V_elder' (zkV q) (Kd.N_base g2) hb)
       have g0 := zK (Kd.N_lower g2 (zz zB))
       have i0 := z7 z hb
       have m0 := z7 a hb
       have t0 := z8 hb
       revert d0 e0 g0 i0 m0 t0
       clear u q z a HB
       intro u q S0 z a HB
       clear hb g2
       refine hK.out _ _ ⟨zy a 0, zy a 1, zy a 2, zy a 3, zy a 4, zy a 5, zy a 6⟩ (fun hHeld => ?_)
       clear hK K
       refine zU 42 ?_
       refine one_ (i := 2) (N := some 39) (bl 9 319) rfl rfl (one_of HT_.out (by kernel_rfl)) (by decide) (fun K hK => ?_)
       refine goes_ Try.func69 (by kernel_rfl) rfl #[.slice p0 D.length q0] (by rfl) rfl rfl zL ?_
       refine (impl_Access.calls (fun k_ => ((((E k_ ∨ I k_) ∨ w.heap.size ≤ k_) ∧ (k_ ≠ B ∧ k_ ≠ A)) ∧ some k_ ≠ (v406 : Value).ownBlock)) _ _ D G1 _ u.out y7.out).mono ?_
       rintro e w24 ⟨v403, rfl, a2, hb⟩
       refine ⟨_, rfl, ?_⟩
       have d0 := zK (Kd.V_elder' (zkV u) (Kd.N_base a2) hb)
       have e0 := zK (Kd.V_elder' (zkV q) (Kd.N_base a2) hb)
       have g0 := zK (Kd.N_elder' (zkN S0) (Kd.N_base a2) hb)
       have i0 := zK (Kd.N_lower (Kd.N_mono (ok' := fun k_ => ((E k_ ∨ I k_) ∨ w.heap.size ≤ k_) ∧ some k_ ≠ (v406 : Value).ownBlock ∧ k_ ≠ B ∧ k_ ≠ A) a2 (fun k_ hk_ => ⟨Or.elim hk_ (fun hs_ => hs_.1.1) (fun hn_ => (.inr (Nat.le_trans (zz zB) hn_))), Or.elim hk_ (fun hs_ => hs_.2) (fun hn_ => (Kd.fresh' (Kd.N_lt (zkN S0)) k_ hn_)), Or.elim hk_ (fun hs_ => hs_.1.2.1) (fun hn_ => (Kd.freshB (zM z) k_ hn_)), Or.elim hk_ (fun hs_ => hs_.1.2.2) (fun hn_ => (Kd.freshB (zM a) k_ hn_))⟩)) (zz zB))
       have m0 := z7 z hb
       have t0 := z7 a hb
       have D0 := z8 hb
       revert d0 e0 g0 i0 m0 t0 D0
       clear u q S0 z a HB
       intro u q S0 a1 z a HB
       (try clear hb)
       (try clear hb2)
       (try clear hk)
       (try clear hi)
       (try clear a2)
       refine hK.out _ _ ⟨zy a 0, zy a 1, zy a 2, zy a 3, zy a 4, zy a 5, zy a 6⟩ (fun hHeld => ?_)
       clear hK K
       refine zU 39 ?_
       exact norm_ (by simp only [putAll, Act.put, zq1, zq2, zq3]) (hCont (v403, v406) _ ⟨hHeld, (zkN a1), (Kd.N_mono (zlN S0.out) (fun _ hk => ⟨hk.1.1, ⟨hk.2, ⟨hk.1.2.1, hk.1.2.2⟩⟩⟩)), (Kd.V_mono (zlV u.out) (fun _ hk => ⟨hk.1.1.1, ⟨hk.2, ⟨hk.1.2, ⟨hk.1.1.2.1, hk.1.1.2.2⟩⟩⟩⟩)), (Kd.V_mono (zlV q.out) (fun _ hk => ⟨hk.1.1.1, ⟨hk.2, ⟨hk.1.2, ⟨hk.1.1.2.1, hk.1.1.2.2⟩⟩⟩⟩)), (zM z), (zM a), zB⟩)
   rintro ⟨v403, v406⟩ A1 ⟨hS_, B7, C7, D7, E7, F7, G7, I7⟩
   have d0 : Aside0 (Kd.N k76 76 A1 w.heap.size (fun k_ => ((E k_ ∨ I k_) ∨ w.heap.size ≤ k_) ∧ some k_ ≠ (v406 : Value).ownBlock ∧ k_ ≠ B ∧ k_ ≠ A) v403 G1) := ⟨B7⟩
   have e0 : Aside0 (Kd.N k76 76 A1 w.heap.size (fun k_ => ((E k_ ∨ I k_) ∨ w.heap.size ≤ k_) ∧ some k_ ≠ (v403 : Value).ownBlock ∧ k_ ≠ B ∧ k_ ≠ A) v406 I1) := ⟨C7⟩
   have g0 : Aside0 (Kd.V k76 76 A1 w.heap.size (fun k_ => ((E k_ ∨ I k_) ∨ w.heap.size ≤ k_) ∧ some k_ ≠ (v403 : Value).ownBlock ∧ some k_ ≠ (v406 : Value).ownBlock ∧ k_ ≠ B ∧ k_ ≠ A) (.slice p0 D.length q0) D) := ⟨D7⟩
   have i0 : Aside0 (Kd.V (Kd.int .i64) 3 A1 w.heap.size (fun k_ => ((E k_ ∨ I k_) ∨ w.heap.size ≤ k_) ∧ some k_ ≠ (v403 : Value).ownBlock ∧ some k_ ≠ (v406 : Value).ownBlock ∧ k_ ≠ B ∧ k_ ≠ A) (.slice n0 J.length o0) J) := ⟨E7⟩
   have m0 : Aside0 (A1.heap[B]? = some (.cells #[.slice x1 c0.length g1, .slice i1 y0.length j1, .slice m1 A0.length n1, .slice o1 B0.length p1, .slice q1 C0.length t1] 34 (0, 0))) := ⟨F7⟩
   have t0 : Aside0 (A1.heap[A]? = some (.cells #[.slice I0 a0.length J0, .slice p0 D.length q0, .int .i64 O, .int .i64 X, .slice n0 J.length o0, .bool x0, .slice O0 b0.length R0] 79 (0, 0))) := ⟨G7⟩
   have D0 : Aside0 (Below w.heap.size w A1) := ⟨I7⟩
   clear u
   clear q
   clear z
   clear a
   clear HB
   clear B7 C7 D7 E7 F7 G7 I7
   revert d0 e0 g0 i0 m0 t0 D0
   intro a1 S0 u q z a HB
   have hHeld : A1.cell? ⟨A, 0, none⟩ = some (.slice I0 a0.length J0) ∧ A1.cell? ⟨A, 1, none⟩ = some (.slice p0 D.length q0) ∧ A1.cell? ⟨A, 2, none⟩ = some (.int .i64 O) ∧ A1.cell? ⟨A, 3, none⟩ = some (.int .i64 X) ∧ A1.cell? ⟨A, 4, none⟩ = some (.slice n0 J.length o0) ∧ A1.cell? ⟨A, 5, none⟩ = some (.bool x0) ∧ A1.cell? ⟨A, 6, none⟩ = some (.slice O0 b0.length R0) := hS_
   obtain ⟨N6, O6, R6⟩ := Kd.N_slice S0.out
   (first | subst R6 | (injection R6 with f1_ f2_ f3_; have f4_ := f1_.symm; have f5_ := f3_.symm; clear f1_ f2_ f3_; subst f4_; subst f5_))
   refine norm_ (a' := ?_) ?_ ?_
   rotate_left
   · simp only [putAll, Act.put, zq1, zq2, zq3]
     rfl
   refine one_ (i := 6) (N := some 43) (bl 9 383) rfl rfl (one_of HT_.out (by kernel_rfl)) (by decide) (fun K hK => ?_)
   refine Kd.N_append_rows_step k76 (w0 := w) w.heap.size (by rfl) (.tmp 39) (.tmp 42) 74 76 (.agg #[(.int .i64 0), (.int .i64 0), (.slice none 0 0)]) 40 rfl Try.underlying74 info76 rfl (by decide) (by omega) v403 G1 I1 _ _ _ (fun k_ => ((E k_ ∨ I k_) ∨ w.heap.size ≤ k_) ∧ k_ ≠ B ∧ k_ ≠ A) (fun k_ => ((fun k_ => ((E k_ ∨ I k_) ∨ w.heap.size ≤ k_) ∧ k_ ≠ B ∧ k_ ≠ A)) k_ ∧ some k_ ≠ (v403 : Value).ownBlock) rfl rfl ?aO ?aR (fun _ hk => hk) ?aF ?aB ?aS ?aL ?_
   (case aR => exact (by skip; exact Kd.N_F (Kd.N_mono (ok' := (fun k_ => ((fun k_ => ((E k_ ∨ I k_) ∨ w.heap.size ≤ k_) ∧ k_ ≠ B ∧ k_ ≠ A)) k_ ∧ some k_ ≠ (v403 : Value).ownBlock)) (S0.out) (fun k_ hk => ⟨⟨hk.1, ⟨hk.2.2.1, hk.2.2.2⟩⟩, hk.2.1⟩))))
   (case aB => exact zB)
   (case aF => exact (fun k_ hk => ⟨(.inr (Nat.le_trans (zz zB) hk)), Kd.freshB (zM z) k_ hk, Kd.freshB (zM a) k_ hk⟩))
   (case aO => exact (Kd.N_mono (zlN a1.out) (fun _ hk => ⟨hk.1, ⟨hk.2.2.1, hk.2.2.2⟩⟩)))
   (case aS => exact (zz zB))
   (case aL => have := LMc20.out; omega)
   intro v409 w26 ho hb hg hat
   rw [← Ny408.out] at ho
   have d0 := zK (Kd.V_afterv (ok := (fun k_ => ((E k_ ∨ I k_) ∨ w.heap.size ≤ k_) ∧ some k_ ≠ (.slice N6 I1.length O6 : Value).ownBlock ∧ k_ ≠ B ∧ k_ ≠ A)) (Kd.V_mono (zlV u.out) (fun _ hk => ⟨⟨hk.1, ⟨hk.2.2.1, ⟨hk.2.2.2.1, hk.2.2.2.2⟩⟩⟩, hk.2.1⟩)) hg hat)
   have e0 := zK (Kd.V_afterv (ok := (fun k_ => ((E k_ ∨ I k_) ∨ w.heap.size ≤ k_) ∧ some k_ ≠ (.slice N6 I1.length O6 : Value).ownBlock ∧ k_ ≠ B ∧ k_ ≠ A)) (Kd.V_mono (zlV q.out) (fun _ hk => ⟨⟨hk.1, ⟨hk.2.2.1, ⟨hk.2.2.2.1, hk.2.2.2.2⟩⟩⟩, hk.2.1⟩)) hg hat)
   have g0 := zK (blk_grown (zM z) hg (Kd.N_ne a1.out z.out (by decide)))
   have i0 := zK (blk_grown (zM a) hg (Kd.N_ne a1.out a.out (by decide)))
   have m0 := zK (Kd.N_afterv (ok := (fun k_ => ((E k_ ∨ I k_) ∨ w.heap.size ≤ k_) ∧ k_ ≠ B ∧ k_ ≠ A)) (Kd.N_mono (zlN S0.out) (fun _ hk => ⟨⟨hk.1, ⟨hk.2.2.1, hk.2.2.2⟩⟩, hk.2.1⟩)) hg hat)
   have t0 := zK (hb)
   have D0 := zK (ho)
   revert d0 e0 g0 i0 m0 t0 D0
   clear u q z a S0 HB a1
   intro u q z a S0 HB O5
   clear ho hb hg hat
   obtain ⟨g5, M0, S6⟩ := Kd.N_slice O5.out
   (first | subst S6 | (injection S6 with f1_ f2_ f3_; have f4_ := f1_.symm; have f5_ := f3_.symm; clear f1_ f2_ f3_; subst f4_; subst f5_))
   refine hK.out _ _ ⟨zy a 0, zy a 1, zy a 2, zy a 3, zy a 4, zy a 5, zy a 6⟩ (fun hHeld => ?_)
   clear hK K
   refine zU 43 ?_
   refine zP 7 44 (bl 9 511) HT_ ?_
   refine done_ (done_of HT_.out (by kernel_rfl)) ?_
   try go_wp2
   go_loopg [45] N5 (fun kq v45 w' => ∃ (l : Int), v45 = .int .i64 l ∧ Aside0 (impl_Nest_kernelOk.l0 kq l2 B1 x (x.length : Int) l c0 y0 A0 B0 C0 a0 D O X J x0 b0 = some (r1, r2)) ∧ Aside0 (kq ≤ N5) ∧ Aside0 (Kd.N k76 76 w' w.heap.size (fun k_ => ((E k_ ∨ I k_) ∨ w.heap.size ≤ k_) ∧ k_ ≠ B ∧ k_ ≠ A) (.slice g5 x.length M0) x) ∧ Aside0 (Kd.V k76 76 w' w.heap.size (fun k_ => ((E k_ ∨ I k_) ∨ w.heap.size ≤ k_) ∧ some k_ ≠ ((.slice g5 x.length M0) : Value).ownBlock ∧ k_ ≠ B ∧ k_ ≠ A) (.slice p0 D.length q0) D) ∧ Aside0 (Kd.V (Kd.int .i64) 3 w' w.heap.size (fun k_ => ((E k_ ∨ I k_) ∨ w.heap.size ≤ k_) ∧ some k_ ≠ ((.slice g5 x.length M0) : Value).ownBlock ∧ k_ ≠ B ∧ k_ ≠ A) (.slice n0 J.length o0) J) ∧ Aside0 (w'.heap[B]? = some (.cells #[(.slice x1 c0.length g1), (.slice i1 y0.length j1), (.slice m1 A0.length n1), (.slice o1 B0.length p1), (.slice q1 C0.length t1)] 34 (0, 0))) ∧ Aside0 (w'.heap[A]? = some (.cells #[(.slice I0 a0.length J0), (.slice p0 D.length q0), .int .i64 O, .int .i64 X, (.slice n0 J.length o0), .bool x0, (.slice O0 b0.length R0)] 79 (0, 0))) ∧ Aside0 (Below w.heap.size w w'))
   case atStart => exact ⟨(0), zR, H', ⟨Nat.le_refl _⟩, ⟨zkN O5⟩, ⟨Kd.V_mono (zlV u.out) (fun _ hk => ⟨hk.1.1, ⟨hk.2, ⟨hk.1.2.2.1, hk.1.2.2.2⟩⟩⟩)⟩, ⟨Kd.V_mono (zlV q.out) (fun _ hk => ⟨hk.1.1, ⟨hk.2, ⟨hk.1.2.2.1, hk.1.2.2.2⟩⟩⟩)⟩, ⟨zM z⟩, ⟨zM a⟩, ⟨zB⟩⟩
   clear H'
   try clear c1
   try clear c2
   try clear p2
   try clear c3
   try clear c4
   try clear c6
   try clear c8
   try clear m3
   try clear C2
   try clear F1
   try clear l4
   try clear q9
   try clear t9
   try clear R4
   try clear S4
   try clear n3 o3 p3 q3 t3 x3 y3 A3 B3 C3 D3 E3 F3 G3
   try clear I3 J3 L3 M3 N3 O3 R3 S3 T3 U3 V3 X3 a4 b4
   try clear x4 y4 B4 C4 D4 E4 F4 G4 I4 J4 L4 M4 N4 O4
   try clear p2
   obtain ⟨l, rfl, HA, N2, U, u, q, z, a, HB⟩ := hrel
   rcases gk with _ | k2
   · exact absurd HA.out (by simp [impl_Nest_kernelOk.l0])
   have H := HA.out
   clear HA
   simp only [impl_Nest_kernelOk.l0] at H
   by_cases O2 : l < (x.length : Int)
   rotate_left
   · as_aux_lemma =>
     rw [if_neg O2] at H
     have R5 := z2 O2
     clear O2
     have H' := zK H
     clear H
     have a0g := e1.out
     have a0j := d1.out
     obtain ⟨d6, e6, f6, g6, i6, j6, l6, m6, n6, o6, q6, t6, x6, y6⟩ := zc7 a
     go_wp2
     go_loopg [77] k2 (fun kq v77 w' => ∃ (E0 : Int), v77 = .int .i64 E0 ∧ Aside0 (impl_Nest_kernelOk.l1 kq l2 B1 D (D.length : Int) E0 a0 D O X J x0 b0 = some (r1, r2)) ∧ Aside0 (kq ≤ k2) ∧ Aside0 (Kd.V k76 76 w' w.heap.size (fun k_ => ((E k_ ∨ I k_) ∨ w.heap.size ≤ k_) ∧ k_ ≠ B ∧ k_ ≠ A) (.slice p0 D.length q0) D) ∧ Aside0 (Kd.V k76 76 w' w.heap.size (fun k_ => ((E k_ ∨ I k_) ∨ w.heap.size ≤ k_) ∧ k_ ≠ B ∧ k_ ≠ A) (.slice p0 D.length q0) D) ∧ Aside0 (Kd.V (Kd.int .i64) 3 w' w.heap.size (fun k_ => ((E k_ ∨ I k_) ∨ w.heap.size ≤ k_) ∧ k_ ≠ B ∧ k_ ≠ A) (.slice n0 J.length o0) J) ∧ Aside0 (w'.heap[B]? = some (.cells #[(.slice x1 c0.length g1), (.slice i1 y0.length j1), (.slice m1 A0.length n1), (.slice o1 B0.length p1), (.slice q1 C0.length t1)] 34 (0, 0))) ∧ Aside0 (w'.heap[A]? = some (.cells #[(.slice I0 a0.length J0), (.slice p0 D.length q0), .int .i64 O, .int .i64 X, (.slice n0 J.length o0), .bool x0, (.slice O0 b0.length R0)] 79 (0, 0))) ∧ Aside0 (Below w.heap.size w w'))
     case atStart => exact ⟨(0), zR, H', ⟨Nat.le_refl _⟩, ⟨Kd.V_mono (zlV u.out) (fun _ hk => ⟨hk.1, ⟨hk.2.2.1, hk.2.2.2⟩⟩)⟩, ⟨Kd.V_mono (zlV u.out) (fun _ hk => ⟨hk.1, ⟨hk.2.2.1, hk.2.2.2⟩⟩)⟩, ⟨Kd.V_mono (zlV q.out) (fun _ hk => ⟨hk.1, ⟨hk.2.2.1, hk.2.2.2⟩⟩)⟩, ⟨zM z⟩, ⟨zM a⟩, ⟨zB⟩⟩
     clear H'
     try clear c1
     try clear c2
     try clear p2
     try clear c3
     try clear c4
     try clear p4
     try clear q4
     try clear C9
     try clear c5
     try clear p6
     try clear c7
     try clear O2
     try clear R5
     try clear T4
     try clear U4
     try clear D2
     try clear J1
     try clear E2
     try clear m4
     try clear D9
     try clear J7
     try clear L7
     try clear R7
     try clear d4
     try clear S5
     try clear e4
     try clear T5
     try clear V4
     try clear c50
     try clear d6 e6 f6 g6 i6 j6 l6 m6 n6 o6 q6 t6 x6 y6
     try clear y1
     try clear p2
     try clear p4
     try clear J7
     try clear R2
     try clear q4
     try clear L7
     try clear T2
     obtain ⟨E0, rfl, HA, M7, F0, u, q, z, a, HB⟩ := hrel
     rcases gk with _ | k3
     · exact absurd HA.out (by simp [impl_Nest_kernelOk.l1])
     have H := HA.out
     clear HA
     simp only [impl_Nest_kernelOk.l1] at H
     by_cases f4 : E0 < (D.length : Int)
     rotate_left
     · as_aux_lemma =>
       rw [if_neg f4] at H
       have i7 := z2 f4
       clear f4
       by_cases U5 : 0 ≤ O
       rotate_left
       · rw [if_neg U5] at H
         exact absurd H (by simp)
       rw [if_pos U5] at H
       have a0l := z1 U5
       clear U5
       by_cases V5 : O < (l2.length : Int)
       rotate_left
       · rw [if_neg V5] at H
         exact absurd H (by simp)
       rw [if_pos V5] at H
       have a0m := z1 V5
       clear V5
       simp only [Option.some.injEq, Prod.mk.injEq] at H
       obtain ⟨rfl, rfl⟩ := H
       try go_wp2
       have d0 := zK (Kd.V_drew F0.out)
       have e0 := zK (Kd.V_drew u.out)
       have g0 := zK (Kd.V_drew q.out)
       have i0 := zK (zd z.out)
       have m0 := zK (zd a.out)
       have t0 := zK (ze HB.out)
       revert d0 e0 g0 i0 m0 t0
       clear F0 u q z a HB
       intro F0 u q z a HB
       have i5 : 0 ≤ (O : Int) := z3
       have j5 : O < (l2.length : Int) := z3
       obtain ⟨j7, S7, U1⟩ := Kd.at_bool o9.out O i5 j5
       have A6 := U1
       cases S7
       (try replace U1 := zX HB U1)
       replace i5 := eq_true i5
       replace j5 := eq_true j5
       refine start_ (n := 10) (S := fun w' => w'.cell? ⟨A, 0, none⟩ = some (.slice I0 a0.length J0) ∧ w'.cell? ⟨A, 1, none⟩ = some (.slice p0 D.length q0) ∧ w'.cell? ⟨A, 2, none⟩ = some (.int .i64 O) ∧ w'.cell? ⟨A, 3, none⟩ = some (.int .i64 X) ∧ w'.cell? ⟨A, 4, none⟩ = some (.slice n0 J.length o0) ∧ w'.cell? ⟨A, 5, none⟩ = some (.bool x0) ∧ w'.cell? ⟨A, 6, none⟩ = some (.slice O0 b0.length R0) ∧ w'.cell? (j7.add (O).toNat) = some (.bool (rdOf false l2 O))) (ds := []) (bl 10 0) (by kernel_rfl) rfl (by kernel_rfl) ⟨zy a 0, zy a 1, zy a 2, zy a 3, zy a 4, zy a 5, zy a 6, (zX HB A6:)⟩ (fun hHeld => ?_); refine with_tabW impl_Nest_kernelOk.tab16 impl_Nest_kernelOk.bits16 (fun HT_ HW_ => ?_)
       generalize wr.drew = w70 at F0 u q z a HB U1 hHeld ⊢
       refine zP 0 88 (bl 10 1) HT_ ?_
       refine zP 1 89 (bl 10 3) HT_ ?_
       refine zP 2 90 (bl 10 7) HT_ ?_
       refine zP 3 91 (bl 10 15) HT_ ?_
       refine zP 8 6 (bl 10 271) HT_ ?_
       refine zT 4 92 (bl 10 287) rfl rfl HT_ HW_ hHeld (by rintro w' ⟨s0, s1, s2, s3, s4, s5, s6, s7⟩; go_simp; with_reducible rfl) ?_
       refine zP 5 93 (bl 10 319) HT_ ?_
       refine zT 6 94 (bl 10 383) rfl rfl HT_ HW_ hHeld (by rintro w' ⟨s0, s1, s2, s3, s4, s5, s6, s7⟩; go_simp; with_reducible rfl) ?_
       refine zP 7 95 (bl 10 511) HT_ ?_
       refine zP 9 7 (bl 10 1023) HT_ ?_
       refine done_ (done_of HT_.out (by kernel_rfl)) ?_
       try go_wp2
       go_ret2
       exact ⟨zE, zB⟩
     rw [if_pos f4] at H
     have i7 := z1 f4
     clear f4
     by_cases X5 : 0 ≤ E0
     rotate_left
     · rw [if_neg X5] at H
       exact absurd H (by simp)
     rw [if_pos X5] at H
     have a0n := z1 X5
     clear X5
     by_cases a6 : E0 < (D.length : Int)
     rotate_left
     · rw [if_neg a6] at H
       exact absurd H (by simp)
     rw [if_pos a6] at H
     have a0o := z1 a6
     clear a6
     by_cases U2 : ((rd_T76 D E0).f0) = O
     · as_aux_lemma =>
       rw [if_pos U2] at H
       have l7 := beq_iff_eq.mpr U2
       have m7 := bne_eq_false_iff_eq.mpr U2
       clear U2
       simp only [Option.some.injEq, Prod.mk.injEq] at H
       obtain ⟨rfl, rfl⟩ := H
       have L1 : 0 ≤ (E0 : Int) := z3
       have M1 : E0 < (D.length : Int) := z3
       obtain ⟨n7, T6, U6, l5, B6, C6, B2, D1, E1⟩ := at_T76 (Kd.V_reads' F0.out).2.2 E0 L1 M1
       cases l5
       obtain ⟨ce416, hce416, hMe416, hcc416⟩ := Kd.V_get F0.out z76 E0 L1 (by first | exact M1 | exact z3 | (have e_ := (Kd.V_reads' F0.out).1; omega))
       obtain ⟨ua416_2, uc416_2, rfl, ul416_2, ge416_2⟩ := k76_openF hMe416
       have T0 := hcc416 2 _ rfl
       rw [add_field _ _ 2 (by omega)] at T0
       replace T0 := z5 (T0.symm.trans B2)
       injection T0 with hva_ hvn_ hvc_
       rw [hva_] at ge416_2
       rw [hvc_] at ul416_2
       have HL416_2 := zK (show Kd.V (Kd.int .i64) 3 _ w.heap.size _ _ ((rd_T76 D E0).f2) from Kd.V_mk ul416_2 ge416_2)
       clear hva_ hvn_ hvc_ ge416_2 ul416_2
       clear hcc416 hce416
       have U0 := zK E1
       have D6 := zK D1
       clear E1 D1
       replace L1 := eq_true L1
       replace M1 := eq_true M1
       go_wp2_with (first | ((with_reducible refine gd 13 rfl ?_); (try (refine gate_guard (by rfl) ?_; dsimp only)); refine zJ 13 #[.int .i64 0, .int .i64 0, .slice none 0 0] 76 ?_; intro b1 hg w56 hbox hb; have d0 := zK (Kd.V_below (Kd.V_elderB (zkV F0) b1 (Nat.le_of_eq hg.symm)) hb); have e0 := zK (Kd.V_below (Kd.V_elderB (zkV u) b1 (Nat.le_of_eq hg.symm)) hb); have g0 := zK (Kd.V_below (Kd.V_elderB (zkV q) b1 (Nat.le_of_eq hg.symm)) hb); have i0 := zK (Kd.V_below (Kd.V_elderB (zkV HL416_2) b1 (Nat.le_of_eq hg.symm)) hb); have m0 := z7 z hb; have t0 := z7 a hb; have D0 := zK (z4 (by repeat (first | (with_reducible exact U0.out) | (with_reducible refine Kd.C_alloc ?_ _) | (with_reducible refine Kd.C_drewN ?_ _) | (with_reducible refine Kd.C_drew ?_) | exact U0.out)) hb); have N0 := z8 hb; have J2 := zK (hbox); have X4 := z9 hg; have V2 := z9 hg; have X2 := zHH hg z; have a3 := zGG hg z; have b3 := zHH hg a; have d3 := zGG hg a; revert d0 e0 g0 i0 m0 t0 D0 N0 J2 X4 V2 X2 a3 b3 d3; clear F0 u q HL416_2 z a U0 HB; intro F0 u q HL416_2 z a U0 HB n4 o7 p7 O1 R1 S1 T1; clear hb hbox hg; have a0p := R1.out; have a0q := O1.out; have a0s := T1.out; have a0t := S1.out; obtain ⟨X7, a8, b8, d8, e8, f8⟩ := zc3 n4; have a0u := e1.out; have a0x := d1.out; obtain ⟨g8, i8, j8, l8, m8, n8, o8, p8, q8, t8, x8, y8, A8, B8⟩ := zc7 a))
       go_ret2
       exact ⟨zE, zB⟩
     rw [if_neg U2] at H
     have l7 := beq_eq_false_iff_ne.mpr U2
     have m7 := bne_iff_ne.mpr U2
     have H' := zK H
     clear H
     have L1 : 0 ≤ (E0 : Int) := z3
     have M1 : E0 < (D.length : Int) := z3
     obtain ⟨n7, T6, U6, l5, B6, C6, B2, D1, E1⟩ := at_T76 (Kd.V_reads' F0.out).2.2 E0 L1 M1
     cases l5
     obtain ⟨ce416, hce416, hMe416, hcc416⟩ := Kd.V_get F0.out z76 E0 L1 (by first | exact M1 | exact z3 | (have e_ := (Kd.V_reads' F0.out).1; omega))
     obtain ⟨ua416_2, uc416_2, rfl, ul416_2, ge416_2⟩ := k76_openF hMe416
     have T0 := hcc416 2 _ rfl
     rw [add_field _ _ 2 (by omega)] at T0
     replace T0 := z5 (T0.symm.trans B2)
     injection T0 with hva_ hvn_ hvc_
     rw [hva_] at ge416_2
     rw [hvc_] at ul416_2
     have HL416_2 := zK (show Kd.V (Kd.int .i64) 3 _ w.heap.size _ _ ((rd_T76 D E0).f2) from Kd.V_mk ul416_2 ge416_2)
     clear hva_ hvn_ hvc_ ge416_2 ul416_2
     clear hcc416 hce416
     have U0 := zK E1
     have D6 := zK D1
     clear E1 D1
     replace L1 := eq_true L1
     replace M1 := eq_true M1
     go_wp2_with (first | ((with_reducible refine gd 13 rfl ?_); (try (refine gate_guard (by rfl) ?_; dsimp only)); refine zJ 13 #[.int .i64 0, .int .i64 0, .slice none 0 0] 76 ?_; intro b1 hg w62 hbox hb; have d0 := zK (Kd.V_below (Kd.V_elderB (zkV F0) b1 (Nat.le_of_eq hg.symm)) hb); have e0 := zK (Kd.V_below (Kd.V_elderB (zkV u) b1 (Nat.le_of_eq hg.symm)) hb); have g0 := zK (Kd.V_below (Kd.V_elderB (zkV q) b1 (Nat.le_of_eq hg.symm)) hb); have i0 := zK (Kd.V_below (Kd.V_elderB (zkV HL416_2) b1 (Nat.le_of_eq hg.symm)) hb); have m0 := z7 z hb; have t0 := z7 a hb; have D0 := zK (z4 (by repeat (first | (with_reducible exact U0.out) | (with_reducible refine Kd.C_alloc ?_ _) | (with_reducible refine Kd.C_drewN ?_ _) | (with_reducible refine Kd.C_drew ?_) | exact U0.out)) hb); have N0 := z8 hb; have J2 := zK (hbox); have X4 := z9 hg; have V2 := z9 hg; have X2 := zHH hg z; have a3 := zGG hg z; have b3 := zHH hg a; have d3 := zGG hg a; revert d0 e0 g0 i0 m0 t0 D0 N0 J2 X4 V2 X2 a3 b3 d3; clear F0 u q HL416_2 z a U0 HB; intro F0 u q HL416_2 z a U0 HB n4 o7 p7 O1 R1 S1 T1; clear hb hbox hg; have a0y := R1.out; have a0z := O1.out; have a1a := T1.out; have a1b := S1.out; obtain ⟨C8, D8, E8, F8, G8, I8⟩ := zc3 n4; have a1c := e1.out; have a1d := d1.out; obtain ⟨J8, L8, M8, N8, O8, R8, S8, T8, U8, V8, X8, a9, b9, c9⟩ := zc7 a))
     go_roundg k3
     case measure => have := L2.out; have := N2.out; have := M7.out; omega
     case rel => exact ⟨(wrap64 (E0 + 1)), zR, H', ⟨by have := L2.out; have := N2.out; have := M7.out; omega⟩, ⟨Kd.V_mono (zlV (Kd.V_mono F0.out (fun k_ hk => (⟨hk, hk.2⟩ : _ ∧ k_ ≠ b1)))) (fun _ hk => ⟨hk.1.1.1, ⟨hk.1.1.2.1, hk.1.1.2.2⟩⟩)⟩, ⟨Kd.V_mono (zlV (Kd.V_mono u.out (fun k_ hk => (⟨hk, hk.2⟩ : _ ∧ k_ ≠ b1)))) (fun _ hk => ⟨hk.1.1.1, ⟨hk.1.1.2.1, hk.1.1.2.2⟩⟩)⟩, ⟨Kd.V_mono (zlV (Kd.V_mono q.out (fun k_ hk => (⟨hk, hk.2⟩ : _ ∧ k_ ≠ b1)))) (fun _ hk => ⟨hk.1.1.1, ⟨hk.1.1.2.1, hk.1.1.2.2⟩⟩)⟩, ⟨zV z⟩, ⟨zV a⟩, ⟨zB⟩⟩
   rw [if_pos O2] at H
   have R5 := z1 O2
   clear O2
   by_cases T4 : 0 ≤ l
   rotate_left
   · rw [if_neg T4] at H
     exact absurd H (by simp)
   rw [if_pos T4] at H
   have a1e := z1 T4
   clear T4
   by_cases U4 : l < (x.length : Int)
   rotate_left
   · rw [if_neg U4] at H
     exact absurd H (by simp)
   rw [if_pos U4] at H
   have a1f := z1 U4
   clear U4
   have m5 := zK H
   clear H
   have o4 : 0 ≤ (l : Int) := z3
   have t4 : l < (x.length : Int) := z3
   obtain ⟨L0, L, M, T7, d9, e9, E6, g4, i4⟩ := at_T76 (Kd.N_reads' U.out).2.2 l o4 t4
   cases T7
   obtain ⟨ce411, hce411, hMe411, hcc411⟩ := Kd.N_get U.out z76 l o4 (by first | exact t4 | exact z3 | (have e_ := (Kd.N_reads' U.out).1; omega))
   obtain ⟨ua411_2, uc411_2, rfl, ul411_2, ge411_2⟩ := k76_openF hMe411
   have V1 := hcc411 2 _ rfl
   rw [add_field _ _ 2 (by omega)] at V1
   replace V1 := z5 (V1.symm.trans E6)
   injection V1 with hva_ hvn_ hvc_
   rw [hva_] at ge411_2
   rw [hvc_] at ul411_2
   have HL411_2 := zK (show Kd.V (Kd.int .i64) 3 _ w.heap.size _ _ ((rd_T76 x l).f2) from Kd.V_mk ul411_2 ge411_2)
   clear hva_ hvn_ hvc_ ge411_2 ul411_2
   clear hcc411 hce411
   have X1 := zK i4
   have F6 := zK g4
   clear i4 g4
   replace o4 := eq_true o4
   replace t4 := eq_true t4
   go_upto_region 7 with (first | ((with_reducible refine gd 11 rfl ?_); (try (refine gate_guard (by rfl) ?_; dsimp only)); refine zJ 11 #[.int .i64 0, .int .i64 0, .slice none 0 0] 76 ?_; intro y hg G0 hbox hb; have d0 := zK (Kd.N_below (Kd.N_elderB (zkN U) y (Nat.le_of_eq hg.symm)) hb); have e0 := zK (Kd.V_below (Kd.V_elderB (zkV u) y (Nat.le_of_eq hg.symm)) hb); have g0 := zK (Kd.V_below (Kd.V_elderB (zkV q) y (Nat.le_of_eq hg.symm)) hb); have i0 := zK (Kd.V_below (Kd.V_elderB (zkV HL411_2) y (Nat.le_of_eq hg.symm)) hb); have m0 := z7 z hb; have t0 := z7 a hb; have D0 := zK (z4 (by repeat (first | (with_reducible exact X1.out) | (with_reducible refine Kd.C_alloc ?_ _) | (with_reducible refine Kd.C_drewN ?_ _) | (with_reducible refine Kd.C_drew ?_) | exact X1.out)) hb); have N0 := z8 hb; have J2 := zK (hbox); have X4 := z9 hg; have V2 := z9 hg; have X2 := zHH hg z; have a3 := zGG hg z; have b3 := zHH hg a; have d3 := zGG hg a; revert d0 e0 g0 i0 m0 t0 D0 N0 J2 X4 V2 X2 a3 b3 d3; clear U u q HL411_2 z a X1 HB; intro U u q HL411_2 z a X1 HB T a1g a1j a5 b5 d5 e5; clear hb hbox hg; have a1l := b5.out; have a1m := a5.out; have a1n := e5.out; have a1o := d5.out; obtain ⟨f9, g9, i9, j9, l9, m9⟩ := zc3 T))
   (try simp only [Act.put, zq1, zq2, zq3])
   go_cut [72] (fun v72 wc => ∃ (kq : Nat) (x2 : Bool), v72 = .bool x2 ∧ Aside0 (impl_Nest_kernelOk.j2 kq l2 B1 x (x.length : Int) l x2 c0 y0 A0 B0 C0 a0 D O X J x0 b0 = some (r1, r2)) ∧ Aside0 (kq ≤ k2) ∧ Aside0 (Kd.N k76 76 wc w.heap.size (fun k_ => ((E k_ ∨ I k_) ∨ w.heap.size ≤ k_) ∧ k_ ≠ B ∧ k_ ≠ A) (.slice (some L0) x.length M0) x) ∧ Aside0 (Kd.V k76 76 wc w.heap.size (fun k_ => ((E k_ ∨ I k_) ∨ w.heap.size ≤ k_) ∧ some k_ ≠ ((.slice (some L0) x.length M0) : Value).ownBlock ∧ k_ ≠ B ∧ k_ ≠ A) (.slice p0 D.length q0) D) ∧ Aside0 (Kd.V (Kd.int .i64) 3 wc w.heap.size (fun k_ => ((E k_ ∨ I k_) ∨ w.heap.size ≤ k_) ∧ some k_ ≠ ((.slice (some L0) x.length M0) : Value).ownBlock ∧ k_ ≠ B ∧ k_ ≠ A) (.slice n0 J.length o0) J) ∧ Aside0 (wc.heap[B]? = some (.cells #[(.slice x1 c0.length g1), (.slice i1 y0.length j1), (.slice m1 A0.length n1), (.slice o1 B0.length p1), (.slice q1 C0.length t1)] 34 (0, 0))) ∧ Aside0 (wc.heap[A]? = some (.cells #[(.slice I0 a0.length J0), (.slice p0 D.length q0), .int .i64 O, .int .i64 X, (.slice n0 J.length o0), .bool x0, (.slice O0 b0.length R0)] 79 (0, 0))) ∧ Aside0 (Below w.heap.size w wc))
   case first =>
    have H := m5.out
    clear m5
    by_cases D2 : ((rd_T76 x l).f0) < 0
    · as_aux_lemma =>
      rw [if_pos D2] at H
      have J1 := z1 D2
      clear D2
      (first | rw [J1] | (simp only [i64_w, i32_w]; rw [J1]) | skip)
      have H' := zK H
      clear H
      try go_wp2
      have d0 : Aside0 (Kd.N k76 76 (((G0.setCell ⟨y, 0, none⟩ (.int .i64 ((rd_T76 x l).f0))).setCell ⟨y, 1, none⟩ (.int .i64 ((rd_T76 x l).f1))).setCell ⟨y, 2, none⟩ (.slice L ((rd_T76 x l).f2).length M)) w.heap.size (fun k_ => ((E k_ ∨ I k_) ∨ w.heap.size ≤ k_) ∧ k_ ≠ B ∧ k_ ≠ A ∧ k_ ≠ y) (.slice (some L0) x.length M0) x) := ⟨Kd.N_mono (zlN (Kd.N_mono U.out (fun k_ hk => (⟨hk, hk.2⟩ : _ ∧ k_ ≠ y)))) (fun _ hk => ⟨hk.1.1.1, ⟨hk.1.1.2.1, ⟨hk.1.1.2.2, hk.1.2⟩⟩⟩)⟩
      have e0 : Aside0 (Kd.V k76 76 (((G0.setCell ⟨y, 0, none⟩ (.int .i64 ((rd_T76 x l).f0))).setCell ⟨y, 1, none⟩ (.int .i64 ((rd_T76 x l).f1))).setCell ⟨y, 2, none⟩ (.slice L ((rd_T76 x l).f2).length M)) w.heap.size (fun k_ => ((E k_ ∨ I k_) ∨ w.heap.size ≤ k_) ∧ some k_ ≠ (.slice (some L0) x.length M0 : Value).ownBlock ∧ k_ ≠ B ∧ k_ ≠ A ∧ k_ ≠ y) (.slice p0 D.length q0) D) := ⟨Kd.V_mono (zlV (Kd.V_mono u.out (fun k_ hk => (⟨hk, hk.2⟩ : _ ∧ k_ ≠ y)))) (fun _ hk => ⟨hk.1.1.1, ⟨hk.1.1.2.1, ⟨hk.1.1.2.2.1, ⟨hk.1.1.2.2.2, hk.1.2⟩⟩⟩⟩)⟩
      have g0 : Aside0 (Kd.V (Kd.int .i64) 3 (((G0.setCell ⟨y, 0, none⟩ (.int .i64 ((rd_T76 x l).f0))).setCell ⟨y, 1, none⟩ (.int .i64 ((rd_T76 x l).f1))).setCell ⟨y, 2, none⟩ (.slice L ((rd_T76 x l).f2).length M)) w.heap.size (fun k_ => ((E k_ ∨ I k_) ∨ w.heap.size ≤ k_) ∧ some k_ ≠ (.slice (some L0) x.length M0 : Value).ownBlock ∧ k_ ≠ B ∧ k_ ≠ A ∧ k_ ≠ y) (.slice n0 J.length o0) J) := ⟨Kd.V_mono (zlV (Kd.V_mono q.out (fun k_ hk => (⟨hk, hk.2⟩ : _ ∧ k_ ≠ y)))) (fun _ hk => ⟨hk.1.1.1, ⟨hk.1.1.2.1, ⟨hk.1.1.2.2.1, ⟨hk.1.1.2.2.2, hk.1.2⟩⟩⟩⟩)⟩
      have i0 : Aside0 (Kd.V (Kd.int .i64) 3 (((G0.setCell ⟨y, 0, none⟩ (.int .i64 ((rd_T76 x l).f0))).setCell ⟨y, 1, none⟩ (.int .i64 ((rd_T76 x l).f1))).setCell ⟨y, 2, none⟩ (.slice L ((rd_T76 x l).f2).length M)) w.heap.size (fun k_ => ((E k_ ∨ I k_) ∨ w.heap.size ≤ k_) ∧ some k_ ≠ (.slice (some L0) x.length M0 : Value).ownBlock ∧ k_ ≠ B ∧ k_ ≠ A ∧ k_ ≠ y) (.slice L ((rd_T76 x l).f2).length M) ((rd_T76 x l).f2)) := ⟨Kd.V_mono (zlV (Kd.V_mono HL411_2.out (fun k_ hk => (⟨hk, hk.2⟩ : _ ∧ k_ ≠ y)))) (fun _ hk => ⟨hk.1.1.1.1, ⟨hk.1.1.2, ⟨hk.1.1.1.2.1, ⟨hk.1.1.1.2.2, hk.1.2⟩⟩⟩⟩)⟩
      have m0 : Aside0 ((((G0.setCell ⟨y, 0, none⟩ (.int .i64 ((rd_T76 x l).f0))).setCell ⟨y, 1, none⟩ (.int .i64 ((rd_T76 x l).f1))).setCell ⟨y, 2, none⟩ (.slice L ((rd_T76 x l).f2).length M)).heap[B]? = some (.cells #[.slice x1 c0.length g1, .slice i1 y0.length j1, .slice m1 A0.length n1, .slice o1 B0.length p1, .slice q1 C0.length t1] 34 (0, 0))) := ⟨zV z⟩
      have t0 : Aside0 ((((G0.setCell ⟨y, 0, none⟩ (.int .i64 ((rd_T76 x l).f0))).setCell ⟨y, 1, none⟩ (.int .i64 ((rd_T76 x l).f1))).setCell ⟨y, 2, none⟩ (.slice L ((rd_T76 x l).f2).length M)).heap[A]? = some (.cells #[.slice I0 a0.length J0, .slice p0 D.length q0, .int .i64 O, .int .i64 X, .slice n0 J.length o0, .bool x0, .slice O0 b0.length R0] 79 (0, 0))) := ⟨zV a⟩
      have D0 : Aside0 ((((G0.setCell ⟨y, 0, none⟩ (.int .i64 ((rd_T76 x l).f0))).setCell ⟨y, 1, none⟩ (.int .i64 ((rd_T76 x l).f1))).setCell ⟨y, 2, none⟩ (.slice L ((rd_T76 x l).f2).length M)).heap[y]? = some (.cells #[.int .i64 ((rd_T76 x l).f0), .int .i64 ((rd_T76 x l).f1), .slice L ((rd_T76 x l).f2).length M] 76 (0, 0))) := ⟨zW T⟩
      have N0 : Aside0 (Below w.heap.size w (((G0.setCell ⟨y, 0, none⟩ (.int .i64 ((rd_T76 x l).f0))).setCell ⟨y, 1, none⟩ (.int .i64 ((rd_T76 x l).f1))).setCell ⟨y, 2, none⟩ (.slice L ((rd_T76 x l).f2).length M))) := ⟨zB⟩
      (try clear U)
      (try clear u)
      (try clear q)
      (try clear HL411_2)
      (try clear z)
      (try clear a)
      (try clear T)
      (try clear HB)
      generalize (((G0.setCell ⟨y, 0, none⟩ (.int .i64 ((rd_T76 x l).f0))).setCell ⟨y, 1, none⟩ (.int .i64 ((rd_T76 x l).f1))).setCell ⟨y, 2, none⟩ (.slice L ((rd_T76 x l).f2).length M)) = E9 at d0 e0 g0 i0 m0 t0 D0 N0 ⊢
      revert d0 e0 g0 i0 m0 t0 D0 N0
      intro U u q HL411_2 z a T HB
      have d0 := zK (Kd.N_drew U.out)
      have e0 := zK (Kd.V_drew u.out)
      have g0 := zK (Kd.V_drew q.out)
      have i0 := zK (Kd.V_drew HL411_2.out)
      have m0 := zK (zd z.out)
      have t0 := zK (zd a.out)
      have D0 := zK (zd T.out)
      have N0 := zK (ze HB.out)
      revert d0 e0 g0 i0 m0 t0 D0 N0
      clear U u q HL411_2 z a T HB
      intro U u q HL411_2 z a T HB
      refine start_ (n := 24) (S := fun w' => w'.cell? ⟨y, 0, none⟩ = some (.int .i64 ((rd_T76 x l).f0)) ∧ w'.cell? ⟨y, 1, none⟩ = some (.int .i64 ((rd_T76 x l).f1)) ∧ w'.cell? ⟨y, 2, none⟩ = some (.slice L ((rd_T76 x l).f2).length M)) (ds := []) (bl 24 0) (by kernel_rfl) rfl (by kernel_rfl) ⟨zy T 0, zy T 1, zy T 2⟩ (fun hHeld => ?_); refine with_tabW impl_Nest_kernelOk.tab7 impl_Nest_kernelOk.bits7 (fun HT_ HW_ => ?_)
      generalize E9.drew = w39 at U u q HL411_2 z a T HB hHeld ⊢
      refine zP 0 49 (bl 24 1) HT_ ?_
      refine zT 1 50 (bl 24 3) rfl rfl HT_ HW_ hHeld (by rintro w' ⟨s0, s1, s2⟩; go_simp; with_reducible rfl) ?_
      refine zP 2 51 (bl 24 7) HT_ ?_
      refine zP 3 52 (bl 24 15) HT_ ?_
      refine zO 4 53 (bl 24 31) HT_ ?_
      refine zO 5 54 (bl 24 63) HT_ ?_
      refine zO 6 55 (bl 24 127) HT_ ?_
      refine zO 7 56 (bl 24 255) HT_ ?_
      refine zO 8 57 (bl 24 511) HT_ ?_
      refine zO 9 58 (bl 24 1023) HT_ ?_
      refine zP 10 59 (bl 24 2047) HT_ ?_
      refine zP 11 60 (bl 24 4095) HT_ ?_
      refine zO 12 61 (bl 24 8191) HT_ ?_
      refine zO 13 62 (bl 24 16383) HT_ ?_
      refine zO 14 63 (bl 24 32767) HT_ ?_
      refine zO 15 64 (bl 24 65535) HT_ ?_
      refine zO 16 65 (bl 24 131071) HT_ ?_
      refine zO 17 66 (bl 24 262143) HT_ ?_
      refine zO 18 67 (bl 24 524287) HT_ ?_
      refine zO 19 68 (bl 24 1048575) HT_ ?_
      refine zO 20 69 (bl 24 2097151) HT_ ?_
      refine zO 21 70 (bl 24 4194303) HT_ ?_
      refine zO 22 71 (bl 24 8388607) HT_ ?_
      refine zP 23 72 (bl 24 16777215) HT_ ?_
      refine done_ (done_of HT_.out (by kernel_rfl)) ?_
      try go_wp2
      go_meet
      case rel => exact ⟨_, (true), zR, H', ⟨by have := L2.out; have := N2.out; first | omega | exact Nat.le_refl _⟩, ⟨Kd.N_mono (zlN U.out) (fun _ hk => ⟨hk.1, ⟨hk.2.1, hk.2.2.1⟩⟩)⟩, ⟨Kd.V_mono (zlV u.out) (fun _ hk => ⟨hk.1, ⟨hk.2.1, ⟨hk.2.2.1, hk.2.2.2.1⟩⟩⟩)⟩, ⟨Kd.V_mono (zlV q.out) (fun _ hk => ⟨hk.1, ⟨hk.2.1, ⟨hk.2.2.1, hk.2.2.2.1⟩⟩⟩)⟩, ⟨zM z⟩, ⟨zM a⟩, ⟨zB⟩⟩
    rw [if_neg D2] at H
    have J1 := z2 D2
    clear D2
    (first | rw [J1] | (simp only [i64_w, i32_w]; rw [J1]) | skip)
    by_cases E2 : ((rd_T76 x l).f0) ≥ (c0.length : Int)
    · as_aux_lemma =>
      rw [if_pos E2] at H
      have m4 := z1 E2
      clear E2
      have H' := zK H
      clear H
      try go_wp2
      have d0 : Aside0 (Kd.N k76 76 (((G0.setCell ⟨y, 0, none⟩ (.int .i64 ((rd_T76 x l).f0))).setCell ⟨y, 1, none⟩ (.int .i64 ((rd_T76 x l).f1))).setCell ⟨y, 2, none⟩ (.slice L ((rd_T76 x l).f2).length M)) w.heap.size (fun k_ => ((E k_ ∨ I k_) ∨ w.heap.size ≤ k_) ∧ k_ ≠ B ∧ k_ ≠ A ∧ k_ ≠ y) (.slice (some L0) x.length M0) x) := ⟨Kd.N_mono (zlN (Kd.N_mono U.out (fun k_ hk => (⟨hk, hk.2⟩ : _ ∧ k_ ≠ y)))) (fun _ hk => ⟨hk.1.1.1, ⟨hk.1.1.2.1, ⟨hk.1.1.2.2, hk.1.2⟩⟩⟩)⟩
      have e0 : Aside0 (Kd.V k76 76 (((G0.setCell ⟨y, 0, none⟩ (.int .i64 ((rd_T76 x l).f0))).setCell ⟨y, 1, none⟩ (.int .i64 ((rd_T76 x l).f1))).setCell ⟨y, 2, none⟩ (.slice L ((rd_T76 x l).f2).length M)) w.heap.size (fun k_ => ((E k_ ∨ I k_) ∨ w.heap.size ≤ k_) ∧ some k_ ≠ (.slice (some L0) x.length M0 : Value).ownBlock ∧ k_ ≠ B ∧ k_ ≠ A ∧ k_ ≠ y) (.slice p0 D.length q0) D) := ⟨Kd.V_mono (zlV (Kd.V_mono u.out (fun k_ hk => (⟨hk, hk.2⟩ : _ ∧ k_ ≠ y)))) (fun _ hk => ⟨hk.1.1.1, ⟨hk.1.1.2.1, ⟨hk.1.1.2.2.1, ⟨hk.1.1.2.2.2, hk.1.2⟩⟩⟩⟩)⟩
      have g0 : Aside0 (Kd.V (Kd.int .i64) 3 (((G0.setCell ⟨y, 0, none⟩ (.int .i64 ((rd_T76 x l).f0))).setCell ⟨y, 1, none⟩ (.int .i64 ((rd_T76 x l).f1))).setCell ⟨y, 2, none⟩ (.slice L ((rd_T76 x l).f2).length M)) w.heap.size (fun k_ => ((E k_ ∨ I k_) ∨ w.heap.size ≤ k_) ∧ some k_ ≠ (.slice (some L0) x.length M0 : Value).ownBlock ∧ k_ ≠ B ∧ k_ ≠ A ∧ k_ ≠ y) (.slice n0 J.length o0) J) := ⟨Kd.V_mono (zlV (Kd.V_mono q.out (fun k_ hk => (⟨hk, hk.2⟩ : _ ∧ k_ ≠ y)))) (fun _ hk => ⟨hk.1.1.1, ⟨hk.1.1.2.1, ⟨hk.1.1.2.2.1, ⟨hk.1.1.2.2.2, hk.1.2⟩⟩⟩⟩)⟩
      have i0 : Aside0 (Kd.V (Kd.int .i64) 3 (((G0.setCell ⟨y, 0, none⟩ (.int .i64 ((rd_T76 x l).f0))).setCell ⟨y, 1, none⟩ (.int .i64 ((rd_T76 x l).f1))).setCell ⟨y, 2, none⟩ (.slice L ((rd_T76 x l).f2).length M)) w.heap.size (fun k_ => ((E k_ ∨ I k_) ∨ w.heap.size ≤ k_) ∧ some k_ ≠ (.slice (some L0) x.length M0 : Value).ownBlock ∧ k_ ≠ B ∧ k_ ≠ A ∧ k_ ≠ y) (.slice L ((rd_T76 x l).f2).length M) ((rd_T76 x l).f2)) := ⟨Kd.V_mono (zlV (Kd.V_mono HL411_2.out (fun k_ hk => (⟨hk, hk.2⟩ : _ ∧ k_ ≠ y)))) (fun _ hk => ⟨hk.1.1.1.1, ⟨hk.1.1.2, ⟨hk.1.1.1.2.1, ⟨hk.1.1.1.2.2, hk.1.2⟩⟩⟩⟩)⟩
      have m0 : Aside0 ((((G0.setCell ⟨y, 0, none⟩ (.int .i64 ((rd_T76 x l).f0))).setCell ⟨y, 1, none⟩ (.int .i64 ((rd_T76 x l).f1))).setCell ⟨y, 2, none⟩ (.slice L ((rd_T76 x l).f2).length M)).heap[B]? = some (.cells #[.slice x1 c0.length g1, .slice i1 y0.length j1, .slice m1 A0.length n1, .slice o1 B0.length p1, .slice q1 C0.length t1] 34 (0, 0))) := ⟨zV z⟩
      have t0 : Aside0 ((((G0.setCell ⟨y, 0, none⟩ (.int .i64 ((rd_T76 x l).f0))).setCell ⟨y, 1, none⟩ (.int .i64 ((rd_T76 x l).f1))).setCell ⟨y, 2, none⟩ (.slice L ((rd_T76 x l).f2).length M)).heap[A]? = some (.cells #[.slice I0 a0.length J0, .slice p0 D.length q0, .int .i64 O, .int .i64 X, .slice n0 J.length o0, .bool x0, .slice O0 b0.length R0] 79 (0, 0))) := ⟨zV a⟩
      have D0 : Aside0 ((((G0.setCell ⟨y, 0, none⟩ (.int .i64 ((rd_T76 x l).f0))).setCell ⟨y, 1, none⟩ (.int .i64 ((rd_T76 x l).f1))).setCell ⟨y, 2, none⟩ (.slice L ((rd_T76 x l).f2).length M)).heap[y]? = some (.cells #[.int .i64 ((rd_T76 x l).f0), .int .i64 ((rd_T76 x l).f1), .slice L ((rd_T76 x l).f2).length M] 76 (0, 0))) := ⟨zW T⟩
      have N0 : Aside0 (Below w.heap.size w (((G0.setCell ⟨y, 0, none⟩ (.int .i64 ((rd_T76 x l).f0))).setCell ⟨y, 1, none⟩ (.int .i64 ((rd_T76 x l).f1))).setCell ⟨y, 2, none⟩ (.slice L ((rd_T76 x l).f2).length M))) := ⟨zB⟩
      (try clear U)
      (try clear u)
      (try clear q)
      (try clear HL411_2)
      (try clear z)
      (try clear a)
      (try clear T)
      (try clear HB)
      generalize (((G0.setCell ⟨y, 0, none⟩ (.int .i64 ((rd_T76 x l).f0))).setCell ⟨y, 1, none⟩ (.int .i64 ((rd_T76 x l).f1))).setCell ⟨y, 2, none⟩ (.slice L ((rd_T76 x l).f2).length M)) = F9 at d0 e0 g0 i0 m0 t0 D0 N0 ⊢
      revert d0 e0 g0 i0 m0 t0 D0 N0
      intro U u q HL411_2 z a T HB
      have d0 := zK (Kd.N_drew U.out)
      have e0 := zK (Kd.V_drew u.out)
      have g0 := zK (Kd.V_drew q.out)
      have i0 := zK (Kd.V_drew HL411_2.out)
      have m0 := zK (zd z.out)
      have t0 := zK (zd a.out)
      have D0 := zK (zd T.out)
      have N0 := zK (ze HB.out)
      revert d0 e0 g0 i0 m0 t0 D0 N0
      clear U u q HL411_2 z a T HB
      intro U u q HL411_2 z a T HB
      refine start_ (n := 24) (S := fun w' => w'.cell? ⟨y, 0, none⟩ = some (.int .i64 ((rd_T76 x l).f0)) ∧ w'.cell? ⟨y, 1, none⟩ = some (.int .i64 ((rd_T76 x l).f1)) ∧ w'.cell? ⟨y, 2, none⟩ = some (.slice L ((rd_T76 x l).f2).length M) ∧ w'.cell? ⟨B, 0, none⟩ = some (.slice x1 c0.length g1) ∧ w'.cell? ⟨B, 1, none⟩ = some (.slice i1 y0.length j1) ∧ w'.cell? ⟨B, 2, none⟩ = some (.slice m1 A0.length n1) ∧ w'.cell? ⟨B, 3, none⟩ = some (.slice o1 B0.length p1) ∧ w'.cell? ⟨B, 4, none⟩ = some (.slice q1 C0.length t1)) (ds := []) (bl 24 0) (by kernel_rfl) rfl (by kernel_rfl) ⟨zy T 0, zy T 1, zy T 2, zy z 0, zy z 1, zy z 2, zy z 3, zy z 4⟩ (fun hHeld => ?_); refine with_tabW impl_Nest_kernelOk.tab7 impl_Nest_kernelOk.bits7 (fun HT_ HW_ => ?_)
      generalize F9.drew = w42 at U u q HL411_2 z a T HB hHeld ⊢
      refine zP 0 49 (bl 24 1) HT_ ?_
      refine zT 1 50 (bl 24 3) rfl rfl HT_ HW_ hHeld (by rintro w' ⟨s0, s1, s2, s3, s4, s5, s6, s7⟩; go_simp; with_reducible rfl) ?_
      refine zP 2 51 (bl 24 7) HT_ ?_
      refine zP 3 52 (bl 24 15) HT_ ?_
      refine zP 4 53 (bl 24 31) HT_ ?_
      refine zP 6 55 (bl 24 95) HT_ ?_
      refine zT 5 54 (bl 24 127) rfl rfl HT_ HW_ hHeld (by rintro w' ⟨s0, s1, s2, s3, s4, s5, s6, s7⟩; go_simp; with_reducible rfl) ?_
      refine zT 7 56 (bl 24 255) rfl rfl HT_ HW_ hHeld (by rintro w' ⟨s0, s1, s2, s3, s4, s5, s6, s7⟩; go_simp; with_reducible rfl) ?_
      refine zP 8 57 (bl 24 511) HT_ ?_
      refine zP 9 58 (bl 24 1023) HT_ ?_
      refine zP 10 59 (bl 24 2047) HT_ ?_
      refine zP 11 60 (bl 24 4095) HT_ ?_
      refine zO 12 61 (bl 24 8191) HT_ ?_
      refine zO 13 62 (bl 24 16383) HT_ ?_
      refine zO 14 63 (bl 24 32767) HT_ ?_
      refine zO 15 64 (bl 24 65535) HT_ ?_
      refine zO 16 65 (bl 24 131071) HT_ ?_
      refine zO 17 66 (bl 24 262143) HT_ ?_
      refine zO 18 67 (bl 24 524287) HT_ ?_
      refine zO 19 68 (bl 24 1048575) HT_ ?_
      refine zO 20 69 (bl 24 2097151) HT_ ?_
      refine zO 21 70 (bl 24 4194303) HT_ ?_
      refine zO 22 71 (bl 24 8388607) HT_ ?_
      refine zP 23 72 (bl 24 16777215) HT_ ?_
      refine done_ (done_of HT_.out (by kernel_rfl)) ?_
      try go_wp2
      go_meet
      case rel => exact ⟨_, (true), zR, H', ⟨by have := L2.out; have := N2.out; first | omega | exact Nat.le_refl _⟩, ⟨Kd.N_mono (zlN U.out) (fun _ hk => ⟨hk.1, ⟨hk.2.1, hk.2.2.1⟩⟩)⟩, ⟨Kd.V_mono (zlV u.out) (fun _ hk => ⟨hk.1, ⟨hk.2.1, ⟨hk.2.2.1, hk.2.2.2.1⟩⟩⟩)⟩, ⟨Kd.V_mono (zlV q.out) (fun _ hk => ⟨hk.1, ⟨hk.2.1, ⟨hk.2.2.1, hk.2.2.2.1⟩⟩⟩)⟩, ⟨zM z⟩, ⟨zM a⟩, ⟨zB⟩⟩
    rw [if_neg E2] at H
    have m4 := z2 E2
    clear E2
    by_cases d4 : 0 ≤ ((rd_T76 x l).f0)
    rotate_left
    · rw [if_neg d4] at H
      exact absurd H (by simp)
    rw [if_pos d4] at H
    have S5 := z1 d4
    clear d4
    by_cases e4 : ((rd_T76 x l).f0) < (c0.length : Int)
    rotate_left
    · rw [if_neg e4] at H
      exact absurd H (by simp)
    rw [if_pos e4] at H
    have T5 := z1 e4
    clear e4
    replace H := z6 H
    obtain ⟨V6, X6, H⟩ := H
    have G9 := zK X6
    clear X6
    have H' := zK H
    clear H
    try go_wp2
    have d0 : Aside0 (Kd.N k76 76 (((G0.setCell ⟨y, 0, none⟩ (.int .i64 ((rd_T76 x l).f0))).setCell ⟨y, 1, none⟩ (.int .i64 ((rd_T76 x l).f1))).setCell ⟨y, 2, none⟩ (.slice L ((rd_T76 x l).f2).length M)) w.heap.size (fun k_ => ((E k_ ∨ I k_) ∨ w.heap.size ≤ k_) ∧ k_ ≠ B ∧ k_ ≠ A ∧ k_ ≠ y) (.slice (some L0) x.length M0) x) := ⟨Kd.N_mono (zlN (Kd.N_mono U.out (fun k_ hk => (⟨hk, hk.2⟩ : _ ∧ k_ ≠ y)))) (fun _ hk => ⟨hk.1.1.1, ⟨hk.1.1.2.1, ⟨hk.1.1.2.2, hk.1.2⟩⟩⟩)⟩
    have e0 : Aside0 (Kd.V k76 76 (((G0.setCell ⟨y, 0, none⟩ (.int .i64 ((rd_T76 x l).f0))).setCell ⟨y, 1, none⟩ (.int .i64 ((rd_T76 x l).f1))).setCell ⟨y, 2, none⟩ (.slice L ((rd_T76 x l).f2).length M)) w.heap.size (fun k_ => ((E k_ ∨ I k_) ∨ w.heap.size ≤ k_) ∧ some k_ ≠ (.slice (some L0) x.length M0 : Value).ownBlock ∧ k_ ≠ B ∧ k_ ≠ A ∧ k_ ≠ y) (.slice p0 D.length q0) D) := ⟨Kd.V_mono (zlV (Kd.V_mono u.out (fun k_ hk => (⟨hk, hk.2⟩ : _ ∧ k_ ≠ y)))) (fun _ hk => ⟨hk.1.1.1, ⟨hk.1.1.2.1, ⟨hk.1.1.2.2.1, ⟨hk.1.1.2.2.2, hk.1.2⟩⟩⟩⟩)⟩
    have g0 : Aside0 (Kd.V (Kd.int .i64) 3 (((G0.setCell ⟨y, 0, none⟩ (.int .i64 ((rd_T76 x l).f0))).setCell ⟨y, 1, none⟩ (.int .i64 ((rd_T76 x l).f1))).setCell ⟨y, 2, none⟩ (.slice L ((rd_T76 x l).f2).length M)) w.heap.size (fun k_ => ((E k_ ∨ I k_) ∨ w.heap.size ≤ k_) ∧ some k_ ≠ (.slice (some L0) x.length M0 : Value).ownBlock ∧ k_ ≠ B ∧ k_ ≠ A ∧ k_ ≠ y) (.slice n0 J.length o0) J) := ⟨Kd.V_mono (zlV (Kd.V_mono q.out (fun k_ hk => (⟨hk, hk.2⟩ : _ ∧ k_ ≠ y)))) (fun _ hk => ⟨hk.1.1.1, ⟨hk.1.1.2.1, ⟨hk.1.1.2.2.1, ⟨hk.1.1.2.2.2, hk.1.2⟩⟩⟩⟩)⟩
    have i0 : Aside0 (Kd.V (Kd.int .i64) 3 (((G0.setCell ⟨y, 0, none⟩ (.int .i64 ((rd_T76 x l).f0))).setCell ⟨y, 1, none⟩ (.int .i64 ((rd_T76 x l).f1))).setCell ⟨y, 2, none⟩ (.slice L ((rd_T76 x l).f2).length M)) w.heap.size (fun k_ => ((E k_ ∨ I k_) ∨ w.heap.size ≤ k_) ∧ some k_ ≠ (.slice (some L0) x.length M0 : Value).ownBlock ∧ k_ ≠ B ∧ k_ ≠ A ∧ k_ ≠ y) (.slice L ((rd_T76 x l).f2).length M) ((rd_T76 x l).f2)) := ⟨Kd.V_mono (zlV (Kd.V_mono HL411_2.out (fun k_ hk => (⟨hk, hk.2⟩ : _ ∧ k_ ≠ y)))) (fun _ hk => ⟨hk.1.1.1.1, ⟨hk.1.1.2, ⟨hk.1.1.1.2.1, ⟨hk.1.1.1.2.2, hk.1.2⟩⟩⟩⟩)⟩
    have m0 : Aside0 ((((G0.setCell ⟨y, 0, none⟩ (.int .i64 ((rd_T76 x l).f0))).setCell ⟨y, 1, none⟩ (.int .i64 ((rd_T76 x l).f1))).setCell ⟨y, 2, none⟩ (.slice L ((rd_T76 x l).f2).length M)).heap[B]? = some (.cells #[.slice x1 c0.length g1, .slice i1 y0.length j1, .slice m1 A0.length n1, .slice o1 B0.length p1, .slice q1 C0.length t1] 34 (0, 0))) := ⟨zV z⟩
    have t0 : Aside0 ((((G0.setCell ⟨y, 0, none⟩ (.int .i64 ((rd_T76 x l).f0))).setCell ⟨y, 1, none⟩ (.int .i64 ((rd_T76 x l).f1))).setCell ⟨y, 2, none⟩ (.slice L ((rd_T76 x l).f2).length M)).heap[A]? = some (.cells #[.slice I0 a0.length J0, .slice p0 D.length q0, .int .i64 O, .int .i64 X, .slice n0 J.length o0, .bool x0, .slice O0 b0.length R0] 79 (0, 0))) := ⟨zV a⟩
    have D0 : Aside0 ((((G0.setCell ⟨y, 0, none⟩ (.int .i64 ((rd_T76 x l).f0))).setCell ⟨y, 1, none⟩ (.int .i64 ((rd_T76 x l).f1))).setCell ⟨y, 2, none⟩ (.slice L ((rd_T76 x l).f2).length M)).heap[y]? = some (.cells #[.int .i64 ((rd_T76 x l).f0), .int .i64 ((rd_T76 x l).f1), .slice L ((rd_T76 x l).f2).length M] 76 (0, 0))) := ⟨zW T⟩
    have N0 : Aside0 (Below w.heap.size w (((G0.setCell ⟨y, 0, none⟩ (.int .i64 ((rd_T76 x l).f0))).setCell ⟨y, 1, none⟩ (.int .i64 ((rd_T76 x l).f1))).setCell ⟨y, 2, none⟩ (.slice L ((rd_T76 x l).f2).length M))) := ⟨zB⟩
    (try clear U)
    (try clear u)
    (try clear q)
    (try clear HL411_2)
    (try clear z)
    (try clear a)
    (try clear T)
    (try clear HB)
    generalize (((G0.setCell ⟨y, 0, none⟩ (.int .i64 ((rd_T76 x l).f0))).setCell ⟨y, 1, none⟩ (.int .i64 ((rd_T76 x l).f1))).setCell ⟨y, 2, none⟩ (.slice L ((rd_T76 x l).f2).length M)) = I9 at d0 e0 g0 i0 m0 t0 D0 N0 ⊢
    revert d0 e0 g0 i0 m0 t0 D0 N0
    intro U u q HL411_2 z a T HB
    have d0 := zK (Kd.N_drew U.out)
    have e0 := zK (Kd.V_drew u.out)
    have g0 := zK (Kd.V_drew q.out)
    have i0 := zK (Kd.V_drew HL411_2.out)
    have m0 := zK (zd z.out)
    have t0 := zK (zd a.out)
    have D0 := zK (zd T.out)
    have N0 := zK (ze HB.out)
    revert d0 e0 g0 i0 m0 t0 D0 N0
    clear U u q HL411_2 z a T HB
    intro U u q HL411_2 z a T HB
    have R2 : 0 ≤ (((rd_T76 x l).f0) : Int) := z3
    have T2 : ((rd_T76 x l).f0) < (c0.length : Int) := z3
    obtain ⟨b6, U7, y1⟩ := Kd.at_int e7.out ((rd_T76 x l).f0) R2 T2
    have j4 := y1
    cases U7
    (try replace y1 := zX HB y1)
    replace R2 := eq_true R2
    replace T2 := eq_true T2
    refine start_ (n := 24) (S := fun w' => w'.cell? ⟨y, 0, none⟩ = some (.int .i64 ((rd_T76 x l).f0)) ∧ w'.cell? ⟨y, 1, none⟩ = some (.int .i64 ((rd_T76 x l).f1)) ∧ w'.cell? ⟨y, 2, none⟩ = some (.slice L ((rd_T76 x l).f2).length M) ∧ w'.cell? ⟨B, 0, none⟩ = some (.slice (some b6) c0.length g1) ∧ w'.cell? ⟨B, 1, none⟩ = some (.slice i1 y0.length j1) ∧ w'.cell? ⟨B, 2, none⟩ = some (.slice m1 A0.length n1) ∧ w'.cell? ⟨B, 3, none⟩ = some (.slice o1 B0.length p1) ∧ w'.cell? ⟨B, 4, none⟩ = some (.slice q1 C0.length t1) ∧ w'.cell? ⟨A, 0, none⟩ = some (.slice I0 a0.length J0) ∧ w'.cell? ⟨A, 1, none⟩ = some (.slice p0 D.length q0) ∧ w'.cell? ⟨A, 2, none⟩ = some (.int .i64 O) ∧ w'.cell? ⟨A, 3, none⟩ = some (.int .i64 X) ∧ w'.cell? ⟨A, 4, none⟩ = some (.slice n0 J.length o0) ∧ w'.cell? ⟨A, 5, none⟩ = some (.bool x0) ∧ w'.cell? ⟨A, 6, none⟩ = some (.slice O0 b0.length R0) ∧ w'.cell? (b6.add (((rd_T76 x l).f0)).toNat) = some (.int .i64 (rd c0 ((rd_T76 x l).f0)))) (ds := []) (bl 24 0) (by kernel_rfl) rfl (by kernel_rfl) ⟨zy T 0, zy T 1, zy T 2, zy z 0, zy z 1, zy z 2, zy z 3, zy z 4, zy a 0, zy a 1, zy a 2, zy a 3, zy a 4, zy a 5, zy a 6, (zX HB j4:)⟩ (fun hHeld => ?_); refine with_tabW impl_Nest_kernelOk.tab7 impl_Nest_kernelOk.bits7 (fun HT_ HW_ => ?_)
    generalize I9.drew = w47 at U u q HL411_2 z a T HB y1 hHeld ⊢
    refine zP 0 49 (bl 24 1) HT_ ?_
    refine zT 1 50 (bl 24 3) rfl rfl HT_ HW_ hHeld (by rintro w' ⟨s0, s1, s2, s3, s4, s5, s6, s7, s8, s9, e3, f3, g3, i3, j3, l3⟩; go_simp; with_reducible rfl) ?_
    refine zP 2 51 (bl 24 7) HT_ ?_
    refine zP 3 52 (bl 24 15) HT_ ?_
    refine zP 4 53 (bl 24 31) HT_ ?_
    refine zP 6 55 (bl 24 95) HT_ ?_
    refine zT 5 54 (bl 24 127) rfl rfl HT_ HW_ hHeld (by rintro w' ⟨s0, s1, s2, s3, s4, s5, s6, s7, s8, s9, e3, f3, g3, i3, j3, l3⟩; go_simp; with_reducible rfl) ?_
    refine zT 7 56 (bl 24 255) rfl rfl HT_ HW_ hHeld (by rintro w' ⟨s0, s1, s2, s3, s4, s5, s6, s7, s8, s9, e3, f3, g3, i3, j3, l3⟩; go_simp; with_reducible rfl) ?_
    refine zP 8 57 (bl 24 511) HT_ ?_
    refine zP 9 58 (bl 24 1023) HT_ ?_
    refine zP 10 59 (bl 24 2047) HT_ ?_
    refine zP 11 60 (bl 24 4095) HT_ ?_
    refine zP 13 62 (bl 24 12287) HT_ ?_
    refine zP 15 64 (bl 24 45055) HT_ ?_
    refine zP 17 66 (bl 24 176127) HT_ ?_
    refine zT 12 61 (bl 24 180223) rfl rfl HT_ HW_ hHeld (by rintro w' ⟨s0, s1, s2, s3, s4, s5, s6, s7, s8, s9, e3, f3, g3, i3, j3, l3⟩; go_simp; with_reducible rfl) ?_
    refine zT 14 63 (bl 24 196607) rfl rfl HT_ HW_ hHeld (by rintro w' ⟨s0, s1, s2, s3, s4, s5, s6, s7, s8, s9, e3, f3, g3, i3, j3, l3⟩; go_simp; with_reducible rfl) ?_
    refine zT 16 65 (bl 24 262143) rfl rfl HT_ HW_ hHeld (by rintro w' ⟨s0, s1, s2, s3, s4, s5, s6, s7, s8, s9, e3, f3, g3, i3, j3, l3⟩; go_simp; with_reducible rfl) ?_
    refine zT 18 67 (bl 24 524287) rfl rfl HT_ HW_ hHeld (by rintro w' ⟨s0, s1, s2, s3, s4, s5, s6, s7, s8, s9, e3, f3, g3, i3, j3, l3⟩; go_simp; with_reducible rfl) ?_
    refine zP 19 68 (bl 24 1048575) HT_ ?_
    refine zT 20 69 (bl 24 2097151) rfl rfl HT_ HW_ hHeld (by rintro w' ⟨s0, s1, s2, s3, s4, s5, s6, s7, s8, s9, e3, f3, g3, i3, j3, l3⟩; go_simp; with_reducible rfl) ?_
    refine one_ (i := 21) (N := some 70) (bl 24 4194303) rfl rfl (one_of HT_.out (by kernel_rfl)) (by decide) (fun K hK => ?_)
    refine goes_ Try.func70 (by kernel_rfl) rfl #[.agg #[.int .i64 ((rd_T76 x l).f0), .int .i64 ((rd_T76 x l).f1), .slice L ((rd_T76 x l).f2).length M], .slice I0 a0.length J0, .int .i64 (rd c0 ((rd_T76 x l).f0))] (by rfl) rfl rfl zL ?_
    with_reducible refine (impl_Access_fitsIn.calls k2 ((rd_T76 x l).f0) ((rd_T76 x l).f1) _ _ ((rd_T76 x l).f2) _ _ a0 (rd c0 ((rd_T76 x l).f0)) V6 _ ?side1 ?side2 ?side3 ?side4 G9.out).mono ?_
    (case side1 => repeat (first | exact ((Kd.V_reads' (zkV HL411_2)).2.2) | (with_reducible refine Kd.C_alloc ?_ _) | (with_reducible refine Kd.C_drewN ?_ _) | (with_reducible refine Kd.C_drew ?_)))
    (case side2 => exact F6.out)
    (case side3 => exact zS L5)
    (case side4 => exact M5.out)
    rintro e w48 ⟨rfl, hb⟩
    refine ⟨_, rfl, ?_⟩
    have d0 := zK (Kd.N_below (zkN U) hb)
    have e0 := zK (Kd.V_below (zkV u) hb)
    have g0 := zK (Kd.V_below (zkV q) hb)
    have i0 := zK (Kd.V_below (zkV HL411_2) hb)
    have m0 := z7 z hb
    have t0 := z7 a hb
    have D0 := z7 T hb
    have N0 := z8 hb
    revert d0 e0 g0 i0 m0 t0 D0 N0
    clear U u q HL411_2 z a T HB
    intro U u q HL411_2 z a T HB
    (try clear hb)
    (try clear hb2)
    (try clear hk)
    (try clear hi)
    refine hK.out _ _ ⟨zy T 0, zy T 1, zy T 2, zy z 0, zy z 1, zy z 2, zy z 3, zy z 4, zy a 0, zy a 1, zy a 2, zy a 3, zy a 4, zy a 5, zy a 6, (zX HB j4:)⟩ (fun hHeld => ?_)
    clear hK K
    refine zU 70 ?_
    refine zP 22 71 (bl 24 8388607) HT_ ?_
    refine zP 23 72 (bl 24 16777215) HT_ ?_
    refine done_ (done_of HT_.out (by kernel_rfl)) ?_
    try go_wp2
    go_meet
    case rel => exact ⟨_, (!V6), zR, H', ⟨by have := L2.out; have := N2.out; first | omega | exact Nat.le_refl _⟩, ⟨Kd.N_mono (zlN U.out) (fun _ hk => ⟨hk.1, ⟨hk.2.1, hk.2.2.1⟩⟩)⟩, ⟨Kd.V_mono (zlV u.out) (fun _ hk => ⟨hk.1, ⟨hk.2.1, ⟨hk.2.2.1, hk.2.2.2.1⟩⟩⟩)⟩, ⟨Kd.V_mono (zlV q.out) (fun _ hk => ⟨hk.1, ⟨hk.2.1, ⟨hk.2.2.1, hk.2.2.2.1⟩⟩⟩)⟩, ⟨zM z⟩, ⟨zM a⟩, ⟨zB⟩⟩
   case rest =>
    clear m5
    try clear c1
    try clear p2
    try clear c3
    try clear c4
    try clear p4
    try clear q4
    try clear C9
    try clear c7
    try clear D2
    try clear J1
    try clear E2
    try clear m4
    try clear D9
    try clear J7
    try clear L7
    try clear R7
    try clear d4
    try clear S5
    try clear e4
    try clear T5
    try clear y1
    try clear R2
    try clear T2
    obtain ⟨kq, x2, rfl, HA, a7, U, u, q, z, a, HB⟩ := hcut
    cases kq with
    | zero => exact absurd HA.out (by simp [impl_Nest_kernelOk.j2])
    | succ V7 =>
     have H := HA.out
     clear HA
     simp only [impl_Nest_kernelOk.j2] at H
     by_cases V4 : x2 = true
     · subst V4
       rw [if_pos rfl] at H
       simp only [Option.some.injEq, Prod.mk.injEq] at H
       obtain ⟨rfl, rfl⟩ := H
       go_wp2
       go_ret2
       exact ⟨zE, zB⟩
     replace V4 := Bool.eq_false_iff.mpr V4
     subst V4
     rw [if_neg (show ¬ (false = true) by decide)] at H
     have H' := zK H
     clear H
     go_wp2
     go_roundg V7
     case measure => have := L2.out; have := N2.out; have := a7.out; omega
     case rel => exact ⟨(wrap64 (l + 1)), zR, H', ⟨by have := L2.out; have := N2.out; have := a7.out; omega⟩, ⟨zkN U⟩, ⟨zkV u⟩, ⟨zkV q⟩, ⟨zM z⟩, ⟨zM a⟩, ⟨zB⟩⟩
end Go.Proofs.Ytmcboiffbcnalaa.PFnExactPlanOk
