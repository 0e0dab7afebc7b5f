-- Printed out of the translation by this session's own turned copy of a printer; Lean checks it.
import Derived.Test.YtmcboiffbcnalaaPFnExactPlanOkx0
import Derived.Test.YtmcboiffbcnalaaPFnExactPlanOkx20
import Derived.Test.YtmcboiffbcnalaaPFnExactPlanOkx22
import Derived.Test.YtmcboiffbcnalaaPFnExactPlanOkx24
namespace Go.Proofs.Ytmcboiffbcnalaa.PFnExactPlanOk
open Go.RowKit Go.Proofs.YtmcboiffbcnalaaW.PrintWords Go.Proofs.YtmcboiffbcnalaaW.PrintLast Go.Proofs.YtmcboiffbcnalaaW.PrintMore
attribute [local go_sem] max2_int min2_int max_two min_two max_three min_three max_four min_four
set_option linter.unusedVariables false
set_option linter.unusedSimpArgs false
set_option maxHeartbeats 8000000
set_option maxRecDepth 100000
mutual
def impl_PlanOk.j0 : Nat → Bool → List Int → List Int → List (S71) → List (S79) → List Int → List Int → Int → Option (Bool)
 | 0, _, _, _, _, _, _, _, _ => none
 | k + 1, B, l, q, u, x, y, a, A => if B = true then (some false) else ((impl_Nest_lives.f k l q u x y).bind fun z => (if 0 ≤ (a.length : Int) then (if ((a.length : Int) : Int).toNat ≤ 281474976710656 then (impl_PlanOk.l0 k z (([] : List Int)) (List.replicate ((a.length : Int) : Int).toNat false) z (z.length : Int) 0 l q u x y a A) else (none)) else (none)))
def impl_PlanOk.l0 : Nat → List (S52) → List Int → List Bool → List (S52) → Int → Int → List Int → List Int → List (S71) → List (S79) → List Int → List Int → Int → Option (Bool)
 | 0, _, _, _, _, _, _, _, _, _, _, _, _, _ => none
 | k + 1, I, J, L, q, E, l, x, y, z, A, B, a, u => if l < E then (if 0 ≤ l then (if l < (q.length : Int) then (if 0 ≤ ((rd_T52 q l).f0) then (if ((rd_T52 q l).f0) < (L.length : Int) then ((some (L.set (((rd_T52 q l).f0) : Int).toNat true : List Bool)).bind fun D => (if ((rd_T52 q l).f0) < (a.length : Int) then (if (rd a ((rd_T52 q l).f0)) < 0 then (impl_PlanOk.j2 k I J D (rd a ((rd_T52 q l).f0)) q E l true x y z A B a u) else (if (rd a ((rd_T52 q l).f0)) > 1000000 then (impl_PlanOk.j2 k I J D (rd a ((rd_T52 q l).f0)) q E l true x y z A B a u) else (impl_PlanOk.j2 k I J D (rd a ((rd_T52 q l).f0)) q E l (decide ((wrap64 ((rd a ((rd_T52 q l).f0)) + ((rd_T52 q l).f1))) > u)) x y z A B a u))) else (none))) else (none)) else (none)) else (none)) else (none)) else (impl_PlanOk.l1 k I J L a (a.length : Int) 0)
def impl_PlanOk.j2 : Nat → List (S52) → List Int → List Bool → Int → List (S52) → Int → Int → Bool → List Int → List Int → List (S71) → List (S79) → List Int → List Int → Int → Option (Bool)
 | 0, _, _, _, _, _, _, _, _, _, _, _, _, _, _, _ => none
 | k + 1, J, A, L, M, B, D, E, I, a, l, q, u, x, y, z => if I = true then (some false) else (if A.length < 17592186044416 then (impl_PlanOk.l0 k J (A ++ [M]) L B D (wrap64 (E + 1)) a l q u x y z) else (none))
def impl_PlanOk.l1 : Nat → List (S52) → List Int → List Bool → List Int → Int → Int → Option (Bool)
 | 0, _, _, _, _, _, _ => none
 | k + 1, x, y, u, l, q, a => if a < q then (if 0 ≤ a then (if a < (l.length : Int) then (if a < (u.length : Int) then (if rdOf false u a = true then (impl_PlanOk.l1 k x y u l q (wrap64 (a + 1))) else (if (rd l a) = (-1) then (impl_PlanOk.l1 k x y u l q (wrap64 (a + 1))) else (some false))) else (none)) else (none)) else (none)) else ((impl_PackOk.f k x y).bind fun z => (some z))
end
def impl_PlanOk.f (k : Nat) (a : List Int) (q : List Int) (u : List (S71)) (x : List (S79)) (y : List Int) (z : List Int) (l : Int) : Option (Bool) := (impl_NestOk.f k a q u x y).bind fun A => (if A = true then (if (z.length : Int) = (a.length : Int) then (if l < 0 then (impl_PlanOk.j0 k true a q u x y z l) else (impl_PlanOk.j0 k (decide (l > 1000000)) a q u x y z l)) else (impl_PlanOk.j0 k true a q u x y z l)) else (impl_PlanOk.j0 k true a q u x y z l))
theorem impl_PlanOk.calls (k) (e0) (g0) (A : List Int) (i0) (m0) (B : List Int) (n0) (o0) (D : List (S71)) (p0) (q0) (E : List (S79)) (s0) (t0) (I : List Int) (x3) (M0) (u : List Int) (M) (r : Bool) (w) (p8 : Kd.C (Kd.int .i64) w e0 A.length A) (q8 : A.length ≤ g0) (s8 : Kd.C (Kd.int .i64) w i0 B.length B) (t8 : B.length ≤ m0) (x8 : Kd.C k71 w n0 D.length D) (y8 : D.length ≤ o0) (A8 : Kd.C k79 w p0 E.length E) (B8 : E.length ≤ q0) (C8 : Kd.C (Kd.int .i64) w s0 I.length I) (D8 : I.length ≤ t0) (E8 : Kd.C (Kd.int .i64) w x3 u.length u) (F8 : u.length ≤ M0) (h : impl_PlanOk.f k A B D E I u M = some r) :
 Calls Try.prog 8 #[.agg #[.slice e0 A.length g0, .slice i0 B.length m0, .slice n0 D.length o0, .slice p0 E.length q0, .slice s0 I.length t0, .slice x3 u.length M0, .int .i64 M]] w fun e w' => e = .returned (.bool r) ∧ Below w.heap.size w w' := by
 have a2f := Try.underlying36
 have a2g := Try.underlying34
 have a2j := Try.underlying52
 have A3 := zK p8
 have B3 := zK q8
 clear p8 q8
 have C3 := zK s8
 have D3 := zK t8
 clear s8 t8
 have E3 := zK x8
 have F3 := zK y8
 clear x8 y8
 have G3 := zK A8
 have I3 := zK B8
 clear A8 B8
 have J3 := zK C8
 have L3 := zK D8
 clear C8 D8
 have s5 := zK E8
 have a1p := zK F8
 clear E8 F8
 have HB := zK (Below.refl w.heap.size w)
 have H : ((impl_NestOk.f k A B D E I).bind fun m8 => (if m8 = true then (if (u.length : Int) = (A.length : Int) then (if M < 0 then (impl_PlanOk.j0 k true A B D E I u M) else (impl_PlanOk.j0 k (decide (M > 1000000)) A B D E I u M)) else (impl_PlanOk.j0 k true A B D E I u M)) else (impl_PlanOk.j0 k true A B D E I u M))) = some r := h
 clear h
 have q9 := zK H
 clear H
 go_enter Try.func8, Try.ntmps8
 go_upto_region 1 with (first | ((with_reducible refine gd 1 rfl ?_); (try (refine gate_guard (by rfl) ?_; dsimp only)); refine zJ 1 #[.slice e0 A.length g0, .slice i0 B.length m0, .slice n0 D.length o0, .slice p0 E.length q0, .slice s0 I.length t0, .slice x3 u.length M0, .int .i64 M] 36 ?_; intro M3 hg w3 hbox hb; have a0 := z8 hb; have b0 := zK (hbox); have x0 := z9 hg; have A0 := z9 hg; revert a0 b0 x0 A0; clear HB; intro HB l a1q a1s; clear hb hbox hg))
 (try simp only [Act.put, zq1, zq2, zq3])
 go_cut [34] (fun v34 wc => ∃ (kq : Nat) (t5 : Bool), v34 = .bool t5 ∧ Aside0 (impl_PlanOk.j0 kq t5 A B D E I u M = some r) ∧ Aside0 (kq ≤ k) ∧ Aside0 (wc.heap[M3]? = some (.cells #[(.slice e0 A.length g0), (.slice i0 B.length m0), (.slice n0 D.length o0), (.slice p0 E.length q0), (.slice s0 I.length t0), (.slice x3 u.length M0), .int .i64 M] 36 (0, 0))) ∧ Aside0 (Below w.heap.size w wc))
 case first =>
  have H := q9.out
  clear q9
  replace H := z6 H
  obtain ⟨m8, N9, H⟩ := H
  have A4 := zK N9
  clear N9
  by_cases c5 : m8 = true
  rotate_left
  · replace c5 := Bool.eq_false_iff.mpr c5
    subst c5
    rw [if_neg (show ¬ (false = true) by decide)] at H
    have H' := zK H
    clear H
    obtain ⟨T0, U0, V0, X0, a1, b1, d1, e1, g1, i1, j1, m1, n1, o1⟩ := zc7 l
    go_wp2_with (first | ((with_reducible refine gc 24 rfl ?_); refine zF 13 Try.func24 #[.agg #[.slice e0 A.length g0, .slice i0 B.length m0, .slice n0 D.length o0, .slice p0 E.length q0, .slice s0 I.length t0]] rfl zL ?_; refine (impl_NestOk.calls k _ _ A _ _ B _ _ D _ _ E _ _ I false _ (zS A3) B3.out (zS C3) D3.out (zS E3) F3.out (zS G3) I3.out (zS J3) L3.out A4.out).mono ?_; rintro e w18 ⟨rfl, hb⟩; refine ⟨_, rfl, ?_⟩; have a0 := z7 l hb; have b0 := z8 hb; revert a0 b0; clear l HB; intro l HB))
    go_meet
    case rel => exact ⟨_, (true), zR, H', ⟨by first | omega | exact Nat.le_refl _⟩, ⟨zM l⟩, ⟨zB⟩⟩
  subst c5
  rw [if_pos rfl] at H
  by_cases c6 : (u.length : Int) = (A.length : Int)
  rotate_left
  · rw [if_neg c6] at H
    have J0 := beq_eq_false_iff_ne.mpr c6
    have A5 := bne_iff_ne.mpr c6
    have B5 : (u.length == A.length) = false := by first | simpa using c6 | (simp at c6 ⊢; omega)
    (first | rw [J0] | (simp only [i64_w, i32_w]; rw [J0]) | skip)
    have H' := zK H
    clear H
    obtain ⟨p1, q1, s1, t1, x1, y1, A1, B1, C1, D1, E1, F1, G1, I1⟩ := zc7 l
    go_wp2_with (first | ((with_reducible refine gc 24 rfl ?_); refine zF 13 Try.func24 #[.agg #[.slice e0 A.length g0, .slice i0 B.length m0, .slice n0 D.length o0, .slice p0 E.length q0, .slice s0 I.length t0]] rfl zL ?_; refine (impl_NestOk.calls k _ _ A _ _ B _ _ D _ _ E _ _ I true _ (zS A3) B3.out (zS C3) D3.out (zS E3) F3.out (zS G3) I3.out (zS J3) L3.out A4.out).mono ?_; rintro e w15 ⟨rfl, hb⟩; refine ⟨_, rfl, ?_⟩; have a0 := z7 l hb; have b0 := z8 hb; revert a0 b0; clear l HB; intro l HB; obtain ⟨J1, L1, M1, N1, O1, R1, S1, T1, U1, V1, X1, a2, b2, d2⟩ := zc7 l))
    go_meet
    case rel => exact ⟨_, (true), zR, H', ⟨by first | omega | exact Nat.le_refl _⟩, ⟨zM l⟩, ⟨zB⟩⟩
  rw [if_pos c6] at H
  have J0 := beq_iff_eq.mpr c6
  have A5 := bne_eq_false_iff_eq.mpr c6
  have B5 : (u.length == A.length) = true := by first | simpa using c6 | (simp at c6 ⊢; omega)
  clear c6
  (first | rw [J0] | (simp only [i64_w, i32_w]; rw [J0]) | skip)
  by_cases c7 : M < 0
  · rw [if_pos c7] at H
    have C5 := z1 c7
    clear c7
    have H' := zK H
    clear H
    obtain ⟨N3, O3, R3, S3, T3, U3, V3, X3, a4, b4, d4, e4, f4, g4⟩ := zc7 l
    go_wp2_with (first | ((with_reducible refine gc 24 rfl ?_); refine zF 13 Try.func24 #[.agg #[.slice e0 A.length g0, .slice i0 B.length m0, .slice n0 D.length o0, .slice p0 E.length q0, .slice s0 I.length t0]] rfl zL ?_; refine (impl_NestOk.calls k _ _ A _ _ B _ _ D _ _ E _ _ I true _ (zS A3) B3.out (zS C3) D3.out (zS E3) F3.out (zS G3) I3.out (zS J3) L3.out A4.out).mono ?_; rintro e w9 ⟨rfl, hb⟩; refine ⟨_, rfl, ?_⟩; have a0 := z7 l hb; have b0 := z8 hb; revert a0 b0; clear l HB; intro l HB; obtain ⟨e2, g2, i2, l2, m2, n2, o2, q2, s2, t2, x2, y2, A2, B2⟩ := zc7 l))
    go_meet
    case rel => exact ⟨_, (true), zR, H', ⟨by first | omega | exact Nat.le_refl _⟩, ⟨zM l⟩, ⟨zB⟩⟩
  rw [if_neg c7] at H
  have C5 := z2 c7
  clear c7
  have H' := zK H
  clear H
  obtain ⟨C2, D2, E2, F2, G2, I2, J2, L2, M2, N2, O2, R2, T2, U2⟩ := zc7 l
  go_wp2_with (first | ((with_reducible refine gc 24 rfl ?_); refine zF 13 Try.func24 #[.agg #[.slice e0 A.length g0, .slice i0 B.length m0, .slice n0 D.length o0, .slice p0 E.length q0, .slice s0 I.length t0]] rfl zL ?_; refine (impl_NestOk.calls k _ _ A _ _ B _ _ D _ _ E _ _ I true _ (zS A3) B3.out (zS C3) D3.out (zS E3) F3.out (zS G3) I3.out (zS J3) L3.out A4.out).mono ?_; rintro e w12 ⟨rfl, hb⟩; refine ⟨_, rfl, ?_⟩; have a0 := z7 l hb; have b0 := z8 hb; revert a0 b0; clear l HB; intro l HB; obtain ⟨V2, X2, a3, b3, d3, e3, g3, i3, j3, l3, m3, n3, o3, s3⟩ := zc7 l))
  go_meet
  case rel => exact ⟨_, (decide (M > 1000000)), zR, H', ⟨by first | omega | exact Nat.le_refl _⟩, ⟨zM l⟩, ⟨zB⟩⟩
 case rest =>
  clear q9
  try clear c2
  try clear p2
  try clear c5
  try clear c6
  try clear J0
  try clear A5
  try clear B5
  try clear c7
  try clear C5
  try clear c8
  try clear e2 g2 i2 l2 m2 n2 o2 q2 s2 t2 x2 y2 A2 B2
  try clear C2 D2 E2 F2 G2 I2 J2 L2 M2 N2 O2 R2 T2 U2
  try clear V2 X2 a3 b3 d3 e3 g3 i3 j3 l3 m3 n3 o3 s3
  try clear p1 q1 s1 t1 x1 y1 A1 B1 C1 D1 E1 F1 G1 I1
  try clear J1 L1 M1 N1 O1 R1 S1 T1 U1 V1 X1 a2 b2 d2
  try clear T0 U0 V0 X0 a1 b1 d1 e1 g1 i1 j1 m1 n1 o1
  try clear N3 O3 R3 S3 T3 U3 V3 X3 a4 b4 d4 e4 f4 g4
  obtain ⟨kq, t5, rfl, HA, i4, l, HB⟩ := hcut
  cases kq with
  | zero => exact absurd HA.out (by simp [impl_PlanOk.j0])
  | succ g8 =>
   have H := HA.out
   clear HA
   simp only [impl_PlanOk.j0] at H
   by_cases D5 : t5 = true
   · subst D5
     rw [if_pos rfl] at H
     obtain rfl := z5 H
     go_wp2
     go_ret
     exact ⟨zE, zB⟩
   replace D5 := Bool.eq_false_iff.mpr D5
   subst D5
   rw [if_neg (show ¬ (false = true) by decide)] at H
   replace H := z6 H
   obtain ⟨a, s9, H⟩ := H
   have A20 := zK s9
   clear s9
   obtain ⟨n8, j4⟩ : ∃ y_ : List Int, y_ = (([] : List Int)) := ⟨_, rfl⟩
   replace H : (if 0 ≤ (u.length : Int) then (if ((u.length : Int) : Int).toNat ≤ 281474976710656 then (impl_PlanOk.l0 g8 a n8 (List.replicate ((u.length : Int) : Int).toNat false) a (a.length : Int) 0 A B D E I u M) else (none)) else (none)) = some r := by first | (rw [j4]; with_reducible exact H) | (have B0 := (Option.bind_some _ _).symm.trans H; rw [j4]; with_reducible exact B0) | (have B0 := (Option.bind_some _ _).symm.trans H; with_reducible exact B0) | with_reducible exact H | (rw [j4]; exact H) | exact H
   have Ny481 := zK j4
   clear j4
   by_cases j5 : 0 ≤ (u.length : Int)
   rotate_left
   · rw [if_neg j5] at H
     exact absurd H (by simp)
   rw [if_pos j5] at H
   have U7 := eq_true j5
   have V7 := z1 j5
   clear j5
   by_cases l5 : ((u.length : Int) : Int).toNat ≤ 281474976710656
   rotate_left
   · rw [if_neg l5] at H
     exact absurd H (by simp)
   rw [if_pos l5] at H
   have X7 := eq_true l5
   have a8 := z1 l5
   clear l5
   obtain ⟨t9, l4⟩ : ∃ y_ : List Bool, y_ = (List.replicate ((u.length : Int) : Int).toNat false) := ⟨_, rfl⟩
   replace H : (impl_PlanOk.l0 g8 a n8 t9 a (a.length : Int) 0 A B D E I u M) = some r := by first | (rw [l4]; with_reducible exact H) | (have B0 := (Option.bind_some _ _).symm.trans H; rw [l4]; with_reducible exact B0) | (have B0 := (Option.bind_some _ _).symm.trans H; with_reducible exact B0) | with_reducible exact H | (rw [l4]; exact H) | exact H
   have Ny484 := zK l4
   clear l4
   have H' := zK H
   clear H
   obtain ⟨t4, x4, y4, B4, C4, D4, E4, F4, G4, I4, J4, L4, M4, N4⟩ := zc7 l
   go_wp2_with (first | ((with_reducible refine gc 25 rfl ?_); refine zF 37 Try.func25 #[.agg #[.slice e0 A.length g0, .slice i0 B.length m0, .slice n0 D.length o0, .slice p0 E.length q0, .slice s0 I.length t0]] rfl zL ?_; refine (impl_Nest_lives.calls g8 _ _ A _ _ B _ _ D _ _ E _ _ I a _ (zS A3) B3.out (zS C3) D3.out (zS E3) F3.out (zS G3) I3.out (zS J3) L3.out A20.out).mono ?_; rintro e w24 ⟨v479, rfl, ho0, hb⟩; refine ⟨_, rfl, ?_⟩; have a0 := zK (Kd.R_lower ho0 (zz zB)); have b0 := z7 l hb; have x0 := z8 hb; revert a0 b0 x0; clear l HB; intro y0 l HB) | ((with_reducible refine gd 38 rfl ?_); (try (refine gate_guard (by rfl) ?_; dsimp only)); refine Kd.R_lit (Kd.int .i64) _ 3 ?hg (N := 38) ?hd (xs := ([] : List Int)) (inner := []) (ok := fun _ => True) (okp := fun _ => True) ?hr ?hp (fun _ hk => hk) trivial (Below.refl _ _) (Nat.le_refl _) (by simp) ?_; (case hd => rfl); (case hg => rfl); (case hr => first | (go_simp; done) | (go_simp; rfl)); (case hp => exact (Reps.none _ _)); intro v482 w25 E5 hb hg_ hnew_; clear hg_ hnew_; (first | rw [← Ny481.out] at E5 | (simp only [Int.reduceToNat] at E5; rw [← Ny481.out] at E5)); have a0 := zK (Kd.R_below (zkR y0) hb); have b0 := zK (Kd.R_lower E5 (zz zB)); have x0 := z7 l hb; have A0 := z8 hb; revert a0 b0 x0 A0; clear y0 l HB; intro y0 x5 l HB; clear hb E5; obtain ⟨O4, R4, S4, T4, U4, V4, X4, a5, b5, d5, e5, f5, g5, i5⟩ := zc7 l) | ((with_reducible refine gd 42 rfl ?_); (try (refine gate_guard (by rfl) ?_; dsimp only)); refine Kd.R_make Kd.bool _ 4 rfl (N := 42) rfl 58 _ _ rfl (u.length : Int) rfl rfl Try.underlying58 (.bool false) 1 info4 rfl (by decide) (by omega) false (ok := fun _ => True) (okp := fun _ => True) rfl (fun _ hk => hk) trivial (z3) (Nat.le_trans (Nat.mul_le_mul_right _ (z3 : (u.length : Int).toNat ≤ 281474976710656)) (by omega)) (Below.refl _ _) (Nat.le_refl _) ?_; intro v485 w28 F5 hb hg_ hnew_; clear hg_ hnew_; (first | rw [← Ny484.out] at F5 | (simp only [Int.reduceToNat] at F5; rw [← Ny484.out] at F5)); have a0 := zK (Kd.R_below (zkR y0) hb); have b0 := zK (Kd.R_below (zkR x5) hb); have x0 := zK (Kd.R_lower F5 (zz zB)); have A0 := z7 l hb; have N0 := z8 hb; revert a0 b0 x0 A0 N0; clear y0 x5 l HB; intro y0 x5 F9 l HB; clear hb F5; obtain ⟨b8, O0, a0b⟩ := Kd.R_slice y0.out; subst a0b))
   go_loopg [4, 45] g8 (fun kq v4 v45 w' => ∃ (c0 : List Int) (U : List Bool) (q : Int), v45 = .int .i64 q ∧ Aside0 (impl_PlanOk.l0 kq a c0 U a (a.length : Int) q A B D E I u M = some r) ∧ Aside0 (kq ≤ g8) ∧ Aside0 (Kd.R k52 52 w' w.heap.size (fun _ => True) (.slice b8 a.length O0) a) ∧ Aside0 (Kd.R (Kd.int .i64) 3 w' w.heap.size (fun _ => True) v4 c0) ∧ Aside0 (Kd.R Kd.bool 4 w' w.heap.size (fun _ => True) v485 U) ∧ Aside0 (Kd.R k52 52 w' w.heap.size (fun _ => True) (.slice b8 a.length O0) a) ∧ Aside0 (w'.heap[M3]? = some (.cells #[(.slice e0 A.length g0), (.slice i0 B.length m0), (.slice n0 D.length o0), (.slice p0 E.length q0), (.slice s0 I.length t0), (.slice x3 u.length M0), .int .i64 M] 36 (0, 0))) ∧ Aside0 (Below w.heap.size w w'))
   case atStart => exact ⟨(n8), (t9), (0), zR, H', ⟨Nat.le_refl _⟩, ⟨zkR y0⟩, ⟨zkR x5⟩, ⟨zkR F9⟩, ⟨zkR y0⟩, ⟨zM l⟩, ⟨zB⟩⟩
   clear H'
   try clear c1
   try clear c2
   try clear p2
   try clear c5
   try clear c6
   try clear J0
   try clear A5
   try clear B5
   try clear c7
   try clear C5
   try clear c8
   try clear D5
   try clear j5
   try clear U7
   try clear V7
   try clear l5
   try clear X7
   try clear a8
   try clear O9
   try clear R9
   try clear e2 g2 i2 l2 m2 n2 o2 q2 s2 t2 x2 y2 A2 B2
   try clear C2 D2 E2 F2 G2 I2 J2 L2 M2 N2 O2 R2 T2 U2
   try clear V2 X2 a3 b3 d3 e3 g3 i3 j3 l3 m3 n3 o3 s3
   try clear p1 q1 s1 t1 x1 y1 A1 B1 C1 D1 E1 F1 G1 I1
   try clear J1 L1 M1 N1 O1 R1 S1 T1 U1 V1 X1 a2 b2 d2
   try clear T0 U0 V0 X0 a1 b1 d1 e1 g1 i1 j1 m1 n1 o1
   try clear t4 x4 y4 B4 C4 D4 E4 F4 G4 I4 J4 L4 M4 N4
   try clear O4 R4 S4 T4 U4 V4 X4 a5 b5 d5 e5 f5 g5 i5
   try clear N3 O3 R3 S3 T3 U3 V3 X3 a4 b4 d4 e4 f4 g4
   try clear p2
   obtain ⟨c0, U, q, rfl, HA, m4, O, L, z, T, l, HB⟩ := hrel
   rcases gk with _ | k2
   · exact absurd HA.out (by simp [impl_PlanOk.l0])
   have H := HA.out
   clear HA
   simp only [impl_PlanOk.l0] at H
   by_cases m5 : q < (a.length : Int)
   rotate_left
   · rw [if_neg m5] at H
     have d8 := z2 m5
     clear m5
     have H' := zK H
     clear H
     obtain ⟨a9, b9, c9, d9, e9, f9, g9, i9, j9, l9, m9, n9, o9, p9⟩ := zc7 l
     go_wp2
     go_loopg [82] k2 (fun kq v82 w' => ∃ (y : Int), v82 = .int .i64 y ∧ Aside0 (impl_PlanOk.l1 kq a c0 U u (u.length : Int) y = some r) ∧ Aside0 (kq ≤ k2) ∧ Aside0 (Kd.R k52 52 w' w.heap.size (fun _ => True) (.slice b8 a.length O0) a) ∧ Aside0 (Kd.R (Kd.int .i64) 3 w' w.heap.size (fun _ => True) u4 c0) ∧ Aside0 (Kd.R Kd.bool 4 w' w.heap.size (fun _ => True) v485 U) ∧ Aside0 (w'.heap[M3]? = some (.cells #[(.slice e0 A.length g0), (.slice i0 B.length m0), (.slice n0 D.length o0), (.slice p0 E.length q0), (.slice s0 I.length t0), (.slice x3 u.length M0), .int .i64 M] 36 (0, 0))) ∧ Aside0 (Below w.heap.size w w'))
     case atStart => exact ⟨(0), zR, H', ⟨Nat.le_refl _⟩, ⟨zkR O⟩, ⟨zkR L⟩, ⟨zkR z⟩, ⟨zM l⟩, ⟨zB⟩⟩
     clear H'
     try clear c1
     try clear c2
     try clear p2
     try clear c3
     try clear p3
     try clear q3
     try clear hx3
     try clear hf3
     try clear c4
     try clear p4
     try clear q4
     try clear hx4
     try clear c5
     try clear c6
     try clear J0
     try clear A5
     try clear B5
     try clear p6
     try clear c7
     try clear C5
     try clear c8
     try clear D5
     try clear j5
     try clear U7
     try clear V7
     try clear l5
     try clear X7
     try clear a8
     try clear O9
     try clear R9
     try clear m5
     try clear d8
     try clear a6
     try clear G8
     try clear b6
     try clear I8
     try clear d6
     try clear J8
     try clear e6
     try clear L8
     try clear G5
     try clear I5
     try clear a0c
     try clear hf36
     try clear f6
     try clear M8
     try clear c40
     try clear n5
     try clear L0
     try clear S9
     try clear T9
     try clear a0d
     try clear o5
     try clear e8
     try clear U9
     try clear V9
     try clear a0e
     try clear c50
     try clear i8
     try clear j8
     try clear e2 g2 i2 l2 m2 n2 o2 q2 s2 t2 x2 y2 A2 B2
     try clear C2 D2 E2 F2 G2 I2 J2 L2 M2 N2 O2 R2 T2 U2
     try clear V2 X2 a3 b3 d3 e3 g3 i3 j3 l3 m3 n3 o3 s3
     try clear p1 q1 s1 t1 x1 y1 A1 B1 C1 D1 E1 F1 G1 I1
     try clear J1 L1 M1 N1 O1 R1 S1 T1 U1 V1 X1 a2 b2 d2
     try clear T0 U0 V0 X0 a1 b1 d1 e1 g1 i1 j1 m1 n1 o1
     try clear t4 x4 y4 B4 C4 D4 E4 F4 G4 I4 J4 L4 M4 N4
     try clear O4 R4 S4 T4 U4 V4 X4 a5 b5 d5 e5 f5 g5 i5
     try clear g6 i6 j6 l6 m6 n6 o6 q6
     try clear s6 t6 x6 y6 A6 B6 C6 D6
     try clear E6 F6 G6 I6 J6 L6 M6 N6 O6 R6 S6 T6 U6 V6
     try clear X6 a7 b7 d7 e7 f7 g7 i7
     try clear j7 l7 m7 n7 o7 p7 q7 s7
     try clear t7 x7 y7 A7 B7 C7 D7 E7 F7 G7 I7 J7 L7 M7
     try clear a9 b9 c9 d9 e9 f9 g9 i9 j9 l9 m9 n9 o9 p9
     try clear N3 O3 R3 S3 T3 U3 V3 X3 a4 b4 d4 e4 f4 g4
     try clear l8
     try clear N7
     try clear O7
     try clear R7
     try clear S7
     try clear t3
     try clear p2
     try clear p3
     try clear G5
     try clear p4
     try clear S9
     try clear J5
     try clear U9
     try clear L5
     try clear p6
     try clear q3
     try clear I5
     try clear q4
     try clear T9
     try clear M5
     try clear V9
     try clear N5
     obtain ⟨y, rfl, HA, N8, O, L, z, l, HB⟩ := hrel
     rcases gk with _ | k3
     · exact absurd HA.out (by simp [impl_PlanOk.l1])
     have H := HA.out
     clear HA
     simp only [impl_PlanOk.l1] at H
     by_cases T7 : y < (u.length : Int)
     rotate_left
     · rw [if_neg T7] at H
       have G9 := z2 T7
       clear T7
       replace H := z6 H
       obtain ⟨a0f, x9, H⟩ := H
       have A67 := zK x9
       clear x9
       obtain rfl := z5 H
       obtain ⟨a0g, a0j, a0l⟩ := Kd.R_slice L.out
       subst a0l
       go_wp2_with (first | ((with_reducible refine gc 26 rfl ?_); refine zF 99 Try.func26 #[.slice b8 a.length O0, .slice a0g c0.length a0j] rfl zL ?_; refine (impl_PackOk.calls k3 _ _ a _ _ c0 a0f _ (zC (Kd.R_reads' O.out).2.2) ((Kd.R_reads' O.out).2.1) (zC (Kd.R_reads' L.out).2.2) ((Kd.R_reads' L.out).2.1) A67.out).mono ?_; rintro e w69 ⟨rfl, hb⟩; refine ⟨_, rfl, ?_⟩; have a0 := zK (Kd.R_below (zkR O) hb); have b0 := zK (Kd.R_below (zkR L) hb); have x0 := zK (Kd.R_below (zkR z) hb); have A0 := z7 l hb; have N0 := z8 hb; revert a0 b0 x0 A0 N0; clear O L z l HB; intro O L z l HB))
       go_ret
       exact ⟨zE, zB⟩
     rw [if_pos T7] at H
     have G9 := z1 T7
     clear T7
     by_cases O8 : 0 ≤ y
     rotate_left
     · rw [if_neg O8] at H
       exact absurd H (by simp)
     rw [if_pos O8] at H
     have a1t := z1 O8
     clear O8
     by_cases R8 : y < (u.length : Int)
     rotate_left
     · rw [if_neg R8] at H
       exact absurd H (by simp)
     rw [if_pos R8] at H
     have a1u := z1 R8
     clear R8
     by_cases S8 : y < (U.length : Int)
     rotate_left
     · rw [if_neg S8] at H
       exact absurd H (by simp)
     rw [if_pos S8] at H
     have a1x := z1 S8
     clear S8
     obtain ⟨bq61, hbq61⟩ : ∃ b_ : Bool, b_ = (rdOf false U y) := ⟨_, rfl⟩
     replace H : (if bq61 = true then (impl_PlanOk.l1 k3 a c0 U u (u.length : Int) (wrap64 (y + 1))) else (if (rd u y) = (-1) then (impl_PlanOk.l1 k3 a c0 U u (u.length : Int) (wrap64 (y + 1))) else (some false))) = some r := by rw [← hbq61] at H; exact H
     have Nbq61 := zK hbq61
     clear hbq61
     by_cases T8 : bq61 = true
     · subst T8
       rw [if_pos rfl] at H
       have H' := zK H
       clear H
       have C0 : 0 ≤ (y : Int) := z3
       have D0 : y < (u.length : Int) := z3
       obtain ⟨U8, O5, d0⟩ := Kd.at_int s5.out y C0 D0
       cases O5
       (try replace d0 := zX HB d0)
       replace C0 := eq_true C0
       replace D0 := eq_true D0
       obtain ⟨a2n, a2o, a0m⟩ := Kd.R_slice z.out
       subst a0m
       have E0 : 0 ≤ (y : Int) := z3
       have F0 : y < (U.length : Int) := z3
       obtain ⟨V8, R5, G0⟩ := Kd.at_bool (Kd.R_reads' z.out).2.2 y E0 F0
       (try rw [← Nbq61.out] at G0)
       cases R5
       replace E0 := eq_true E0
       replace F0 := eq_true F0
       go_wp2
       go_roundg k3
       case measure => have := i4.out; have := m4.out; have := N8.out; omega
       case rel => exact ⟨(wrap64 (y + 1)), zR, H', ⟨by have := i4.out; have := m4.out; have := N8.out; omega⟩, ⟨zkR O⟩, ⟨zkR L⟩, ⟨zkR z⟩, ⟨zM l⟩, ⟨zB⟩⟩
     replace T8 := Bool.eq_false_iff.mpr T8
     subst T8
     rw [if_neg (show ¬ (false = true) by decide)] at H
     by_cases S5 : (rd u y) = (-1)
     rotate_left
     · rw [if_neg S5] at H
       have I9 := beq_eq_false_iff_ne.mpr S5
       have J9 := bne_iff_ne.mpr S5
       obtain rfl := z5 H
       have C0 : 0 ≤ (y : Int) := z3
       have D0 : y < (u.length : Int) := z3
       obtain ⟨U8, O5, d0⟩ := Kd.at_int s5.out y C0 D0
       cases O5
       (try replace d0 := zX HB d0)
       replace C0 := eq_true C0
       replace D0 := eq_true D0
       obtain ⟨a2p, a2q, a0n⟩ := Kd.R_slice z.out
       subst a0n
       have E0 : 0 ≤ (y : Int) := z3
       have F0 : y < (U.length : Int) := z3
       obtain ⟨V8, R5, G0⟩ := Kd.at_bool (Kd.R_reads' z.out).2.2 y E0 F0
       (try rw [← Nbq61.out] at G0)
       cases R5
       replace E0 := eq_true E0
       replace F0 := eq_true F0
       go_wp2
       go_ret
       exact ⟨zE, zB⟩
     rw [if_pos S5] at H
     have I9 := beq_iff_eq.mpr S5
     have J9 := bne_eq_false_iff_eq.mpr S5
     clear S5
     have H' := zK H
     clear H
     have C0 : 0 ≤ (y : Int) := z3
     have D0 : y < (u.length : Int) := z3
     obtain ⟨U8, O5, d0⟩ := Kd.at_int s5.out y C0 D0
     cases O5
     (try replace d0 := zX HB d0)
     replace C0 := eq_true C0
     replace D0 := eq_true D0
     obtain ⟨a2s, a2t, a0o⟩ := Kd.R_slice z.out
     subst a0o
     have E0 : 0 ≤ (y : Int) := z3
     have F0 : y < (U.length : Int) := z3
     obtain ⟨V8, R5, G0⟩ := Kd.at_bool (Kd.R_reads' z.out).2.2 y E0 F0
     (try rw [← Nbq61.out] at G0)
     cases R5
     replace E0 := eq_true E0
     replace F0 := eq_true F0
     go_wp2
     go_roundg k3
     case measure => have := i4.out; have := m4.out; have := N8.out; omega
     case rel => exact ⟨(wrap64 (y + 1)), zR, H', ⟨by have := i4.out; have := m4.out; have := N8.out; omega⟩, ⟨zkR O⟩, ⟨zkR L⟩, ⟨zkR z⟩, ⟨zM l⟩, ⟨zB⟩⟩
   rw [if_pos m5] at H
   have d8 := z1 m5
   clear m5
   by_cases a6 : 0 ≤ q
   rotate_left
   · rw [if_neg a6] at H
     exact absurd H (by simp)
   rw [if_pos a6] at H
   have G8 := z1 a6
   clear a6
   by_cases b6 : q < (a.length : Int)
   rotate_left
   · rw [if_neg b6] at H
     exact absurd H (by simp)
   rw [if_pos b6] at H
   have I8 := z1 b6
   clear b6
   by_cases d6 : 0 ≤ ((rd_T52 a q).f0)
   rotate_left
   · rw [if_neg d6] at H
     exact absurd H (by simp)
   rw [if_pos d6] at H
   have J8 := z1 d6
   clear d6
   by_cases e6 : ((rd_T52 a q).f0) < (U.length : Int)
   rotate_left
   · rw [if_neg e6] at H
     exact absurd H (by simp)
   rw [if_pos e6] at H
   have L8 := z1 e6
   clear e6
   obtain ⟨R0, n4⟩ : ∃ y_ : List Bool, y_ = (U.set (((rd_T52 a q).f0) : Int).toNat true) := ⟨_, rfl⟩
   replace H : (if ((rd_T52 a q).f0) < (u.length : Int) then (if (rd u ((rd_T52 a q).f0)) < 0 then (impl_PlanOk.j2 k2 a c0 R0 (rd u ((rd_T52 a q).f0)) a (a.length : Int) q true A B D E I u M) else (if (rd u ((rd_T52 a q).f0)) > 1000000 then (impl_PlanOk.j2 k2 a c0 R0 (rd u ((rd_T52 a q).f0)) a (a.length : Int) q true A B D E I u M) else (impl_PlanOk.j2 k2 a c0 R0 (rd u ((rd_T52 a q).f0)) a (a.length : Int) q (decide ((wrap64 ((rd u ((rd_T52 a q).f0)) + ((rd_T52 a q).f1))) > M)) A B D E I u M))) else (none)) = some r := by first | (rw [n4]; with_reducible exact H) | (have B0 := (Option.bind_some _ _).symm.trans H; rw [n4]; with_reducible exact B0) | (have B0 := (Option.bind_some _ _).symm.trans H; with_reducible exact B0) | with_reducible exact H | (rw [n4]; exact H) | exact H
   have Ny489 := zK n4
   clear n4
   by_cases f6 : ((rd_T52 a q).f0) < (u.length : Int)
   rotate_left
   · rw [if_neg f6] at H
     exact absurd H (by simp)
   rw [if_pos f6] at H
   have M8 := z1 f6
   clear f6
   have o8 := zK H
   clear H
   have J5 : 0 ≤ (q : Int) := z3
   have M5 : q < (a.length : Int) := z3
   obtain ⟨y5, a0p, N7, O7, R7, S7⟩ := at_T52 (Kd.R_reads' T.out).2.2 q J5 M5
   cases a0p
   replace J5 := eq_true J5
   replace M5 := eq_true M5
   go_upto_region 11 with (first | ((with_reducible refine gd 7 rfl ?_); (try (refine gate_guard (by rfl) ?_; dsimp only)); refine zJ 7 #[.int .i64 0, .int .i64 0, .int .i64 0, .int .i64 0] 52 ?_; intro J hg w39 hbox hb; have a0 := zK (Kd.R_below (Kd.R_elderB (zkR O) J (Nat.le_of_eq hg.symm)) hb); have b0 := zK (Kd.R_below (zkR L) hb); have x0 := zK (Kd.R_below (zkR z) hb); have A0 := zK (Kd.R_below (Kd.R_elderB (zkR T) J (Nat.le_of_eq hg.symm)) hb); have N0 := z7 l hb; have T5 := z8 hb; have U5 := zK (hbox); have n7_ := z9 hg; have n8_ := z9 hg; have n9_ := zHH hg l; have a0q := zGG hg l; revert a0 b0 x0 A0 N0 T5 U5 n7_ n8_ n9_ a0q; clear O L z T l HB; intro O L z T l HB x a1y a1z p5 q5; clear hb hbox hg; have a2a := q5.out; have a2b := p5.out; obtain ⟨g6, i6, j6, l6, m6, n6, o6, q6⟩ := zc4 x) | ((with_reducible refine gate_store (t := 52) (p := 7) rfl ?_); refine store_event (t := 52) (p := 7) (v := ?vo_w42) (w1 := ((((w39.setCell ⟨J, 0, none⟩ (.int .i64 ((rd_T52 a q).f0))).setCell ⟨J, 1, none⟩ (.int .i64 ((rd_T52 a q).f1))).setCell ⟨J, 2, none⟩ (.int .i64 ((rd_T52 a q).f2))).setCell ⟨J, 3, none⟩ (.int .i64 ((rd_T52 a q).f3)))) ?hg ?ho ?hn ?hr ?_; (case ho => rfl); (case hg => rfl); (case hn => rfl); (case hr => first | (go_simp; done) | (go_simp; rfl)); intro I0 hw; have a0 : Aside0 (Kd.R k52 52 I0 w.heap.size (fun k_ => k_ ≠ J) (.slice (some y5) a.length O0) a) := ⟨(by rw [hw]; exact (Kd.R_mono (zlR (Kd.R_mono O.out (fun k_ hk => (⟨hk, hk.2⟩ : _ ∧ k_ ≠ J)))) (fun _ hk => hk.1.2)))⟩; have b0 : Aside0 (Kd.R (Kd.int .i64) 3 I0 w.heap.size (fun _ => True) u4 c0) := ⟨(by rw [hw]; exact (Kd.R_mono (zlR (Kd.R_types L.out x.out (by decide))) (fun _ hk => trivial)))⟩; have x0 : Aside0 (Kd.R Kd.bool 4 I0 w.heap.size (fun _ => True) v485 U) := ⟨(by rw [hw]; exact (Kd.R_mono (zlR (Kd.R_types z.out x.out (by decide))) (fun _ hk => trivial)))⟩; have A0 : Aside0 (Kd.R k52 52 I0 w.heap.size (fun k_ => k_ ≠ J) (.slice (some y5) a.length O0) a) := ⟨(by rw [hw]; exact (Kd.R_mono (zlR (Kd.R_mono T.out (fun k_ hk => (⟨hk, hk.2⟩ : _ ∧ k_ ≠ J)))) (fun _ hk => hk.1.2)))⟩; have N0 : Aside0 (I0.heap[M3]? = some (.cells #[.slice e0 A.length g0, .slice i0 B.length m0, .slice n0 D.length o0, .slice p0 E.length q0, .slice s0 I.length t0, .slice x3 u.length M0, .int .i64 M] 36 (0, 0))) := ⟨(by rw [hw]; exact (zV l))⟩; have T5 : Aside0 (I0.heap[J]? = some (.cells #[.int .i64 ((rd_T52 a q).f0), .int .i64 ((rd_T52 a q).f1), .int .i64 ((rd_T52 a q).f2), .int .i64 ((rd_T52 a q).f3)] 52 (0, 0))) := ⟨(by rw [hw]; exact (zW x))⟩; have U5 : Aside0 (Below w.heap.size w I0) := ⟨(by rw [hw]; exact zB)⟩; revert a0 b0 x0 A0 N0 T5 U5; clear hw O L z T l x HB; intro O L z T l x HB; have s6 : I0.cell? ⟨J, 0, none⟩ = some (.int .i64 ((rd_T52 a q).f0)) := zy x 0; have t6 : I0.cell? ⟨J, 1, none⟩ = some (.int .i64 ((rd_T52 a q).f1)) := zy x 1; have x6 : I0.cell? ⟨J, 2, none⟩ = some (.int .i64 ((rd_T52 a q).f2)) := zy x 2; have y6 : I0.cell? ⟨J, 3, none⟩ = some (.int .i64 ((rd_T52 a q).f3)) := zy x 3; have A6 := zf x.out 0; have B6 := zf x.out 1; have C6 := zf x.out 2; have D6 := zf x.out 3; have G5 : 0 ≤ (((rd_T52 a q).f0) : Int) := z3; have I5 : (((rd_T52 a q).f0) : Int) < ((U.length : Int) : Int) := z3; obtain ⟨go36, V5, y9, A9, gl36, cl36, HG36⟩ := Kd.R_form z.out (by omega); (first | cases y9 | (injection y9 with ea_ en_ ec_; (first | subst ea_ | (injection ea_ with ea_; subst ea_)); subst ec_; clear en_)); have GB36 := zK A9; have GG36 := zK HG36; clear A9 gl36 HG36; obtain ⟨l8, hf36_0⟩ := Kd.R_celln false z.out (((rd_T52 a q).f0) : Int) G5 I5; replace G5 := eq_true G5; replace I5 := eq_true I5; obtain ⟨a2c, hz44_⟩ := Kd.R_celln false z.out (((rd_T52 a q).f0) : Int) (z3) (z3); have HP44 := Kd.R_putg z.out (((rd_T52 a q).f0) : Int) true) | ((with_reducible refine gate_store (t := 4) (p := 52) rfl ?_); refine store_event (t := 4) (p := 52) (v := ?vo_w45) (w1 := (I0.setCell ⟨go36, (((rd_T52 a q).f0) : Int).toNat, none⟩ (.bool true))) ?hg ?ho ?hn ?hr ?_; (case ho => rfl); (case hg => rfl); (case hn => rfl); (case hr => first | (go_simp; done) | (go_simp; rfl)); intro S0 hw; have hg : I0.grownBy S0 (some go36) := (by rw [hw]; exact HP44.2); have hp_ : Kd.R Kd.bool 4 S0 w.heap.size (fun _ => True) (.slice (some ⟨go36, 0, none⟩) U.length V5) R0 := (by rw [hw, Ny489.out]; exact HP44.1); clear HP44; have a0 := zK (Kd.R_over' (v := (.slice (some ⟨go36, 0, none⟩) U.length V5)) (zkR O) (Kd.R_typed z.out) (by decide) hg); have b0 := zK (Kd.R_over' (v := (.slice (some ⟨go36, 0, none⟩) U.length V5)) (zkR L) (Kd.R_typed z.out) (by decide) hg); have x0 := zK (hp_); have A0 := zK (Kd.R_over' (v := (.slice (some ⟨go36, 0, none⟩) U.length V5)) (zkR T) (Kd.R_typed z.out) (by decide) hg); have N0 := zK (blk_grown (zM l) hg (Kd.R_ne z.out l.out (by decide))); have T5 := zK (blk_grown (zM x) hg (Kd.R_ne z.out x.out (by decide))); have U5 := zK ((by rw [hw]; exact zs (HB.out) GB36.out : Below w.heap.size w S0)); revert a0 b0 x0 A0 N0 T5 U5; clear O L z T l x HB; intro O L z T l x HB; clear hg hw hp_; obtain ⟨E6, F6, G6, I6, J6, L6, M6, N6, O6, R6, S6, T6, U6, V6⟩ := zc7 l; have X6 : S0.cell? ⟨J, 0, none⟩ = some (.int .i64 ((rd_T52 a q).f0)) := zy x 0; have a7 : S0.cell? ⟨J, 1, none⟩ = some (.int .i64 ((rd_T52 a q).f1)) := zy x 1; have b7 : S0.cell? ⟨J, 2, none⟩ = some (.int .i64 ((rd_T52 a q).f2)) := zy x 2; have d7 : S0.cell? ⟨J, 3, none⟩ = some (.int .i64 ((rd_T52 a q).f3)) := zy x 3; have e7 := zf x.out 0; have f7 := zf x.out 1; have g7 := zf x.out 2; have i7 := zf x.out 3; have L5 : 0 ≤ (((rd_T52 a q).f0) : Int) := z3; have N5 : ((rd_T52 a q).f0) < (u.length : Int) := z3; obtain ⟨L9, a0s, t3⟩ := Kd.at_int s5.out ((rd_T52 a q).f0) L5 N5; cases a0s; (try replace t3 := zX HB t3); replace L5 := eq_true L5; replace N5 := eq_true N5))
   (try simp only [Act.put, zq1, zq2, zq3])
   go_cut [73] (fun v73 wc => ∃ (kq : Nat) (o4 : Bool), v73 = .bool o4 ∧ Aside0 (impl_PlanOk.j2 kq a c0 R0 (rd u ((rd_T52 a q).f0)) a (a.length : Int) q o4 A B D E I u M = some r) ∧ Aside0 (kq ≤ k2) ∧ Aside0 (Kd.R k52 52 wc w.heap.size (fun k_ => k_ ≠ J) (.slice (some y5) a.length O0) a) ∧ Aside0 (Kd.R (Kd.int .i64) 3 wc w.heap.size (fun _ => True) u4 c0) ∧ Aside0 (Kd.R Kd.bool 4 wc w.heap.size (fun _ => True) (.slice (some ⟨go36, 0, none⟩) U.length V5) R0) ∧ Aside0 (Kd.R k52 52 wc w.heap.size (fun k_ => k_ ≠ J) (.slice (some y5) a.length O0) a) ∧ Aside0 (wc.heap[M3]? = some (.cells #[(.slice e0 A.length g0), (.slice i0 B.length m0), (.slice n0 D.length o0), (.slice p0 E.length q0), (.slice s0 I.length t0), (.slice (some L9) u.length M0), .int .i64 M] 36 (0, 0))) ∧ Aside0 (wc.heap[J]? = some (.cells #[.int .i64 ((rd_T52 a q).f0), .int .i64 ((rd_T52 a q).f1), .int .i64 ((rd_T52 a q).f2), .int .i64 ((rd_T52 a q).f3)] 52 (0, 0))) ∧ Aside0 (Below w.heap.size w wc))
   case first =>
    have H := o8.out
    clear o8
    by_cases n5 : (rd u ((rd_T52 a q).f0)) < 0
    · rw [if_pos n5] at H
      have L0 := z1 n5
      clear n5
      (first | rw [L0] | (simp only [i64_w, i32_w]; rw [L0]) | skip)
      have H' := zK H
      clear H
      go_wp2
      go_meet
      case rel => exact ⟨_, (true), zR, H', ⟨by have := i4.out; have := m4.out; first | omega | exact Nat.le_refl _⟩, ⟨zkR O⟩, ⟨zkR L⟩, ⟨zkR z⟩, ⟨zkR T⟩, ⟨zM l⟩, ⟨zM x⟩, ⟨zB⟩⟩
    rw [if_neg n5] at H
    have L0 := z2 n5
    clear n5
    (first | rw [L0] | (simp only [i64_w, i32_w]; rw [L0]) | skip)
    by_cases o5 : (rd u ((rd_T52 a q).f0)) > 1000000
    · rw [if_pos o5] at H
      have e8 := z1 o5
      clear o5
      have H' := zK H
      clear H
      go_wp2
      go_meet
      case rel => exact ⟨_, (true), zR, H', ⟨by have := i4.out; have := m4.out; first | omega | exact Nat.le_refl _⟩, ⟨zkR O⟩, ⟨zkR L⟩, ⟨zkR z⟩, ⟨zkR T⟩, ⟨zM l⟩, ⟨zM x⟩, ⟨zB⟩⟩
    rw [if_neg o5] at H
    have e8 := z2 o5
    clear o5
    have H' := zK H
    clear H
    have a2d := q5.out
    have a2e := p5.out
    have j7 : S0.cell? ⟨J, 0, none⟩ = some (.int .i64 ((rd_T52 a q).f0)) := zy x 0
    have l7 : S0.cell? ⟨J, 1, none⟩ = some (.int .i64 ((rd_T52 a q).f1)) := zy x 1
    have m7 : S0.cell? ⟨J, 2, none⟩ = some (.int .i64 ((rd_T52 a q).f2)) := zy x 2
    have n7 : S0.cell? ⟨J, 3, none⟩ = some (.int .i64 ((rd_T52 a q).f3)) := zy x 3
    have o7 := zf x.out 0
    have p7 := zf x.out 1
    have q7 := zf x.out 2
    have s7 := zf x.out 3
    obtain ⟨t7, x7, y7, A7, B7, C7, D7, E7, F7, G7, I7, J7, L7, M7⟩ := zc7 l
    go_wp2
    go_meet
    case rel => exact ⟨_, (decide ((wrap64 ((rd u ((rd_T52 a q).f0)) + ((rd_T52 a q).f1))) > M)), zR, H', ⟨by have := i4.out; have := m4.out; first | omega | exact Nat.le_refl _⟩, ⟨zkR O⟩, ⟨zkR L⟩, ⟨zkR z⟩, ⟨zkR T⟩, ⟨zM l⟩, ⟨zM x⟩, ⟨zB⟩⟩
   case rest =>
    clear o8
    try clear c1
    try clear c2
    try clear p2
    try clear c3
    try clear p3
    try clear q3
    try clear hx3
    try clear hf3
    try clear c4
    try clear p4
    try clear q4
    try clear hx4
    try clear c5
    try clear c6
    try clear J0
    try clear A5
    try clear B5
    try clear p6
    try clear c7
    try clear C5
    try clear c8
    try clear D5
    try clear j5
    try clear U7
    try clear V7
    try clear l5
    try clear X7
    try clear a8
    try clear O9
    try clear R9
    try clear m5
    try clear d8
    try clear a6
    try clear G8
    try clear b6
    try clear I8
    try clear d6
    try clear J8
    try clear e6
    try clear L8
    try clear G5
    try clear I5
    try clear a0c
    try clear hf36
    try clear f6
    try clear M8
    try clear c40
    try clear n5
    try clear L0
    try clear S9
    try clear T9
    try clear a0d
    try clear o5
    try clear e8
    try clear U9
    try clear V9
    try clear a0e
    try clear c50
    try clear e2 g2 i2 l2 m2 n2 o2 q2 s2 t2 x2 y2 A2 B2
    try clear C2 D2 E2 F2 G2 I2 J2 L2 M2 N2 O2 R2 T2 U2
    try clear V2 X2 a3 b3 d3 e3 g3 i3 j3 l3 m3 n3 o3 s3
    try clear p1 q1 s1 t1 x1 y1 A1 B1 C1 D1 E1 F1 G1 I1
    try clear J1 L1 M1 N1 O1 R1 S1 T1 U1 V1 X1 a2 b2 d2
    try clear T0 U0 V0 X0 a1 b1 d1 e1 g1 i1 j1 m1 n1 o1
    try clear t4 x4 y4 B4 C4 D4 E4 F4 G4 I4 J4 L4 M4 N4
    try clear O4 R4 S4 T4 U4 V4 X4 a5 b5 d5 e5 f5 g5 i5
    try clear g6 i6 j6 l6 m6 n6 o6 q6
    try clear s6 t6 x6 y6 A6 B6 C6 D6
    try clear E6 F6 G6 I6 J6 L6 M6 N6 O6 R6 S6 T6 U6 V6
    try clear X6 a7 b7 d7 e7 f7 g7 i7
    try clear j7 l7 m7 n7 o7 p7 q7 s7
    try clear t7 x7 y7 A7 B7 C7 D7 E7 F7 G7 I7 J7 L7 M7
    try clear N3 O3 R3 S3 T3 U3 V3 X3 a4 b4 d4 e4 f4 g4
    try clear l8
    try clear N7
    try clear O7
    try clear R7
    try clear S7
    try clear t3
    try clear p2
    try clear G5
    try clear J5
    try clear L5
    try clear I5
    try clear M5
    try clear N5
    obtain ⟨kq, o4, rfl, HA, B9, O, L, z, T, l, x, HB⟩ := hcut
    have X := (Kd.R_reads' z.out).1
    rw [X] at z
    (try simp only [X])
    (try simp only [X] at l)
    (try simp only [X] at x)
    (try simp only [X] at O)
    (try simp only [X] at L)
    (try simp only [X] at T)
    cases kq with
    | zero => exact absurd HA.out (by simp [impl_PlanOk.j2])
    | succ C9 =>
     have H := HA.out
     clear HA
     simp only [impl_PlanOk.j2] at H
     by_cases i8 : o4 = true
     · subst i8
       rw [if_pos rfl] at H
       obtain rfl := z5 H
       go_wp2
       go_ret
       exact ⟨zE, zB⟩
     replace i8 := Bool.eq_false_iff.mpr i8
     subst i8
     rw [if_neg (show ¬ (false = true) by decide)] at H
     by_cases j8 : c0.length < 17592186044416
     rotate_left
     · rw [if_neg j8] at H
       exact absurd H (by simp)
     rw [if_pos j8] at H
     have LMc54 := zK j8
     clear j8
     obtain ⟨D9, s4⟩ : ∃ y_ : List Int, y_ = (c0 ++ [(rd u ((rd_T52 a q).f0))]) := ⟨_, rfl⟩
     replace H : (impl_PlanOk.l0 C9 a D9 R0 a (a.length : Int) (wrap64 (q + 1)) A B D E I u M) = some r := by first | (rw [s4]; with_reducible exact H) | (have B0 := (Option.bind_some _ _).symm.trans H; rw [s4]; with_reducible exact B0) | (have B0 := (Option.bind_some _ _).symm.trans H; with_reducible exact B0) | with_reducible exact H | (rw [s4]; exact H) | exact H
     have Ny491 := zK s4
     clear s4
     have H' := zK H
     clear H
     go_wp2_with (first | ((with_reducible refine gate_builtin (b := .append) (xs := #[.tmp 74, .tmp 76]) rfl ?_); (try (refine gate_guard (by rfl) ?_; dsimp only)); at_builtin; refine Kd.R_append (Kd.int .i64) (w0 := w) w.heap.size rfl (.tmp 74) (.tmp 76) 22 3 (.int .i64 0) 8 rfl Try.underlying22 info3 rfl (by decide) (by omega) u4 c0 (rd u ((rd_T52 a q).f0)) [.int .i64 (rd u ((rd_T52 a q).f0))] (fun _ => True) (fun _ => False) rfl rfl ?aP (fun _ hk => hk.elim) ?aF ?aO ?aB ?aS ?aL ?_; (case aP => exact rfl); (case aB => exact zB); (case aF => exact (fun _ _ => trivial)); (case aO => exact (zkR L)); (case aS => exact (zz zB)); (case aL => have := LMc54.out; omega); intro v492 w55 ho hb hg hat; rw [← Ny491.out] at ho; have a0 := zK (Kd.R_over' (zkR O) (Kd.R_typed (zkR L)) (by decide) hg); have b0 := zK (Kd.R_over' (zkR z) (Kd.R_typed (zkR L)) (by decide) hg); have x0 := zK (Kd.R_over' (zkR T) (Kd.R_typed (zkR L)) (by decide) hg); have A0 := zK (blk_grown (zM l) hg (Kd.R_ne L.out l.out (by decide))); have N0 := zK (blk_grown (zM x) hg (Kd.R_ne L.out x.out (by decide))); have T5 := zK (hb); have U5 := zK (ho); revert a0 b0 x0 A0 N0 T5 U5; clear O z T l x HB L; intro O z T l x HB M9; clear ho hb hg hat))
     (try simp only [← X])
     go_roundg C9
     case measure => have := i4.out; have := m4.out; have := B9.out; omega
     case rel => exact ⟨(D9), (R0), (wrap64 (q + 1)), zR, H', ⟨by have := i4.out; have := m4.out; have := B9.out; omega⟩, ⟨by (try simp only [X]); (with_reducible repeat (first | apply Kd.R_alloc | apply Kd.R_drewN | apply Kd.R_drew)); exact Kd.R_mono O.out (fun _ hk => trivial)⟩, ⟨by (try simp only [X]); (with_reducible repeat (first | apply Kd.R_alloc | apply Kd.R_drewN | apply Kd.R_drew)); exact M9.out⟩, ⟨by (try simp only [X]); (with_reducible repeat (first | apply Kd.R_alloc | apply Kd.R_drewN | apply Kd.R_drew)); exact z.out⟩, ⟨by (try simp only [X]); (with_reducible repeat (first | apply Kd.R_alloc | apply Kd.R_drewN | apply Kd.R_drew)); exact Kd.R_mono T.out (fun _ hk => trivial)⟩, ⟨by (try simp only [X]); (with_reducible repeat (first | refine zn ?_ _ | refine zd ?_ | refine za ?_ _)); exact l.out⟩, ⟨zB⟩⟩
end Go.Proofs.Ytmcboiffbcnalaa.PFnExactPlanOk
