-- Printed out of the translation by this session's own turned copy of a printer; Lean checks it.
import Derived.Test.YtmcboiffbcnalaaPFnExactPlanOkx0
import Derived.Test.YtmcboiffbcnalaaPFnExactPlanOkx15
import Derived.Test.YtmcboiffbcnalaaPFnExactPlanOkx21
namespace Go.Proofs.Ytmcboiffbcnalaa.PFnExactPlanOk
open Go.RowKit Go.Proofs.YtmcboiffbcnalaaW.PrintWords Go.Proofs.YtmcboiffbcnalaaW.PrintLast Go.Proofs.YtmcboiffbcnalaaW.PrintMore
attribute [local go_sem] max2_int min2_int max_two min_two max_three min_three max_four min_four
set_option linter.unusedVariables false
set_option linter.unusedSimpArgs false
set_option maxHeartbeats 8000000
set_option maxRecDepth 100000
mutual
def impl_Nest_lives.l0 : Nat → List Bool → List (S52) → List Int → Int → Int → List Int → List Int → List (S71) → List (S79) → List Int → Option ((List (S52)))
 | 0, _, _, _, _, _, _, _, _, _, _ => none
 | k + 1, D, B, z, A, l, q, u, x, a, y => if l < A then (if 0 ≤ l then (if l < (z.length : Int) then (impl_Nest_lives.l1 k D B l (rd z l) (-1) (-1) z A l a (a.length : Int) 0 q u x a y) else (none)) else (none)) else (some B)
def impl_Nest_lives.l1 : Nat → List Bool → List (S52) → Int → Int → Int → Int → List Int → Int → Int → List (S79) → Int → Int → List Int → List Int → List (S71) → List (S79) → List Int → Option ((List (S52)))
 | 0, _, _, _, _, _, _, _, _, _, _, _, _, _, _, _, _, _ => none
 | k + 1, J, O, A, L, M, T, D, E, I, z, U, y, l, q, u, x, a => if y < U then (if 0 ≤ y then (if y < (z.length : Int) then (if ((rd_T79 z y).f2.f0) = A then (impl_Nest_lives.j2 k J O A L M T y D E I z U y true l q u x a) else ((impl_Kernel_loadsOf.f k ((rd_T79 z y).f0) ((rd_T79 z y).f1) ((rd_T79 z y).f2.f0) ((rd_T79 z y).f2.f1) ((rd_T79 z y).f2.f2) ((rd_T79 z y).f3) ((rd_T79 z y).f4) A).bind fun X => (impl_Nest_lives.j2 k J O A L M T y D E I z U y (decide (X > 0)) l q u x a))) else (none)) else (none)) else ((slices_Contains_int_int.f k a A).bind fun B => (if L = 0 then (impl_Nest_lives.j3 k J O A L M T B D E I true l q u x a) else (if M < 0 then (if 0 ≤ A then (if A < (J.length : Int) then (if rdOf false J A = true then (impl_Nest_lives.j3 k J O A L M T B D E I false l q u x a) else (impl_Nest_lives.j3 k J O A L M T B D E I (!B) l q u x a)) else (none)) else (none)) else (impl_Nest_lives.j3 k J O A L M T B D E I false l q u x a))))
def impl_Nest_lives.j2 : Nat → List Bool → List (S52) → Int → Int → Int → Int → Int → List Int → Int → Int → List (S79) → Int → Int → Bool → List Int → List Int → List (S71) → List (S79) → List Int → Option ((List (S52)))
 | 0, _, _, _, _, _, _, _, _, _, _, _, _, _, _, _, _, _, _, _ => none
 | k + 1, J, L, M, O, T, X, y, z, A, B, D, E, I, U, a, l, q, u, x => if U = true then (if T < 0 then (impl_Nest_lives.l1 k J L M O y y z A B D E (wrap64 (I + 1)) a l q u x) else (impl_Nest_lives.l1 k J L M O T y z A B D E (wrap64 (I + 1)) a l q u x)) else (impl_Nest_lives.l1 k J L M O T X z A B D E (wrap64 (I + 1)) a l q u x)
def impl_Nest_lives.j3 : Nat → List Bool → List (S52) → Int → Int → Int → Int → Bool → List Int → Int → Int → Bool → List Int → List Int → List (S71) → List (S79) → List Int → Option ((List (S52)))
 | 0, _, _, _, _, _, _, _, _, _, _, _, _, _, _, _, _ => none
 | k + 1, y, I, z, J, O, L, E, A, B, D, M, a, l, q, u, x => if M = true then (impl_Nest_lives.l0 k y I A B (wrap64 (D + 1)) a l q u x) else (if 0 ≤ z then (if z < (y.length : Int) then (if rdOf false y z = true then (impl_Nest_lives.j4 k y I z J 0 L E A B D a l q u x) else (impl_Nest_lives.j4 k y I z J O L E A B D a l q u x)) else (none)) else (none))
def impl_Nest_lives.j4 : Nat → List Bool → List (S52) → Int → Int → Int → Int → Bool → List Int → Int → Int → List Int → List Int → List (S71) → List (S79) → List Int → Option ((List (S52)))
 | 0, _, _, _, _, _, _, _, _, _, _, _, _, _, _, _ => none
 | k + 1, D, y, E, I, J, M, L, z, A, B, l, q, u, a, x => if L = true then (if y.length < 4398046511104 then (impl_Nest_lives.l0 k D (y ++ [(⟨E, I, mx J 0, mx (a.length : Int) 0⟩ : S52)]) z A (wrap64 (B + 1)) l q u a x) else (none)) else (if y.length < 4398046511104 then (impl_Nest_lives.l0 k D (y ++ [(⟨E, I, mx J 0, mx M 0⟩ : S52)]) z A (wrap64 (B + 1)) l q u a x) else (none))
end
def impl_Nest_lives.f (k : Nat) (a : List Int) (l : List Int) (q : List (S71)) (u : List (S79)) (x : List Int) : Option ((List (S52))) := (impl_Nest_given.f a l q u x).bind fun y => (impl_Nest_lives.l0 k y.1 (([] : List (S52))) a (a.length : Int) 0 a l q u x)
theorem impl_Nest_lives.calls (k) (L3) (x0) (l : List Int) (y0) (A0) (A : List Int) (B0) (C0) (B : List (S71)) (I0) (D0) (q : List (S79)) (b0) (c0) (z : List Int) (r : List (S52)) (w) (p5 : Kd.C (Kd.int .i64) w L3 l.length l) (q5 : l.length ≤ x0) (s5 : Kd.C (Kd.int .i64) w y0 A.length A) (t5 : A.length ≤ A0) (x5 : Kd.C k71 w B0 B.length B) (y5 : B.length ≤ C0) (A5 : Kd.C k79 w I0 q.length q) (B5 : q.length ≤ D0) (C5 : Kd.C (Kd.int .i64) w b0 z.length z) (D5 : z.length ≤ c0) (h : impl_Nest_lives.f k l A B q z = some r) :
 Calls Try.prog 25 #[.agg #[.slice L3 l.length x0, .slice y0 A.length A0, .slice B0 B.length C0, .slice I0 q.length D0, .slice b0 z.length c0]] w fun e w' => ∃ v0_ : Value, e = .returned (v0_) ∧ Kd.R k52 52 w' w.heap.size (fun _ => True) v0_ r ∧ Below w.heap.size w w' := by
 have a8 := Try.underlying34
 have b8 := Try.underlying79
 have c8 := Try.underlying52
 have E5 := zK p5
 have s6 := zK q5
 clear p5 q5
 have t6 := zK s5
 have x6 := zK t5
 clear s5 t5
 have y6 := zK x5
 have A6 := zK y5
 clear x5 y5
 have F5 := zK A5
 have B6 := zK B5
 clear A5 B5
 have G5 := zK C5
 have I5 := zK D5
 clear C5 D5
 have HB := zK (Below.refl w.heap.size w)
 have H : ((impl_Nest_given.f l A B q z).bind fun C6 => (impl_Nest_lives.l0 k C6.1 (([] : List (S52))) l (l.length : Int) 0 l A B q z)) = some r := h
 clear h
 replace H := z6 H
 obtain ⟨⟨E, a7⟩, R6, H⟩ := H
 replace H : (impl_Nest_lives.l0 k E (([] : List (S52))) l (l.length : Int) 0 l A B q z) = some r := H
 have A2 := zK R6
 clear R6
 obtain ⟨g6, O1⟩ : ∃ y_ : List (S52), y_ = (([] : List (S52))) := ⟨_, rfl⟩
 replace H : (impl_Nest_lives.l0 k E g6 l (l.length : Int) 0 l A B q z) = some r := by first | (rw [O1]; with_reducible exact H) | (have J0 := (Option.bind_some _ _).symm.trans H; rw [O1]; with_reducible exact J0) | (have J0 := (Option.bind_some _ _).symm.trans H; with_reducible exact J0) | with_reducible exact H | (rw [O1]; exact H) | exact H
 have Ny440 := zK O1
 clear O1
 have H' := zK H
 clear H
 go_enter Try.func25, Try.ntmps25
 go_wp2_with (first | ((with_reducible refine gd 1 rfl ?_); refine zJ 1 #[.slice L3 l.length x0, .slice y0 A.length A0, .slice B0 B.length C0, .slice I0 q.length D0, .slice b0 z.length c0] 34 ?_; intro R1 hg w3 hbox hb; have e0 := z8 hb; have g0 := zK (hbox); have i0 := z9 hg; have L0 := z9 hg; revert e0 g0 i0 L0; clear HB; intro HB u L7 M7; clear hb hbox hg; obtain ⟨M0, N0, O0, R0, S0, T0, U0, V0, X0, a1⟩ := zc5 u) | ((with_reducible refine gc 47 rfl ?_); refine zF 15 Try.func47 #[.agg #[.slice L3 l.length x0, .slice y0 A.length A0, .slice B0 B.length C0, .slice I0 q.length D0, .slice b0 z.length c0]] rfl zL ?_; refine (impl_Nest_given.calls _ _ l _ _ A _ _ B _ _ q _ _ z E a7 _ (zS E5) s6.out (zS t6) x6.out (zS y6) A6.out (zS F5) B6.out (zS G5) I5.out A2.out).mono ?_; rintro e w5 ⟨v437, rfl, A7, hb⟩; refine ⟨_, rfl, ?_⟩; have e0 := zK (Kd.R_lower A7 (zz zB)); have g0 := z7 u hb; have i0 := z8 hb; revert e0 g0 i0; clear u HB; intro D3 u HB) | ((with_reducible refine gd 18 rfl ?_); refine Kd.R_lit k52 _ 52 ?hg (N := 18) ?hd (xs := ([] : List (S52))) (inner := []) (ok := fun _ => True) (okp := fun _ => True) ?hr ?hp (fun _ hk => hk) trivial (Below.refl _ _) (Nat.le_refl _) (by simp) ?_; (case hd => rfl); (case hg => rfl); (case hr => first | (go_simp; done) | (go_simp; rfl)); (case hp => exact (Reps.none _ _)); intro v441 w6 O4 hb hg_ hnew_; clear hg_ hnew_; (first | rw [← Ny440.out] at O4 | (simp only [Int.reduceToNat] at O4; rw [← Ny440.out] at O4)); have e0 := zK (Kd.R_below (zkR D3) hb); have g0 := zK (Kd.R_lower O4 (zz zB)); have i0 := z7 u hb; have L0 := z8 hb; revert e0 g0 i0 L0; clear D3 u HB; intro D3 D6 u HB; clear hb O4; obtain ⟨b1, d1, e1, g1, i1, j1, m1, n1, o1, p1⟩ := zc5 u))
 go_loopg [5, 22] k (fun kq v5 v22 w' => ∃ (I : List (S52)) (a : Int), v22 = .int .i64 a ∧ Aside0 (impl_Nest_lives.l0 kq E I l (l.length : Int) a l A B q z = some r) ∧ Aside0 (kq ≤ k) ∧ Aside0 (Kd.R Kd.bool 4 w' w.heap.size (fun _ => True) v437 E) ∧ Aside0 (Kd.R k52 52 w' w.heap.size (fun _ => True) v5 I) ∧ Aside0 (w'.heap[R1]? = some (.cells #[(.slice L3 l.length x0), (.slice y0 A.length A0), (.slice B0 B.length C0), (.slice I0 q.length D0), (.slice b0 z.length c0)] 34 (0, 0))) ∧ Aside0 (Below w.heap.size w w'))
 case atStart => exact ⟨(g6), (0), zR, H', ⟨Nat.le_refl _⟩, ⟨zkR D3⟩, ⟨zkR D6⟩, ⟨zM u⟩, ⟨zB⟩⟩
 clear H'
 try clear c2
 try clear p2
 try clear c4
 try clear M0 N0 O0 R0 S0 T0 U0 V0 X0 a1
 try clear b1 d1 e1 g1 i1 j1 m1 n1 o1 p1
 obtain ⟨I, a, rfl, HA, M, y, D, u, HB⟩ := hrel
 rcases gk with _ | k1
 · exact absurd HA.out (by simp [impl_Nest_lives.l0])
 have H := HA.out
 clear HA
 simp only [impl_Nest_lives.l0] at H
 by_cases c9 : a < (l.length : Int)
 rotate_left
 · rw [if_neg c9] at H
   have M3 := z2 c9
   clear c9
   obtain rfl := z5 H
   go_wp2
   go_ret
   exact ⟨_, zE, zkR D, zB⟩
 rw [if_pos c9] at H
 have M3 := z1 c9
 clear c9
 by_cases y3 : 0 ≤ a
 rotate_left
 · rw [if_neg y3] at H
   exact absurd H (by simp)
 rw [if_pos y3] at H
 have E3 := z1 y3
 clear y3
 by_cases A3 : a < (l.length : Int)
 rotate_left
 · rw [if_neg A3] at H
   exact absurd H (by simp)
 rw [if_pos A3] at H
 have F3 := z1 A3
 clear A3
 have H' := zK H
 clear H
 have M1 : 0 ≤ (a : Int) := z3
 have N1 : a < (l.length : Int) := z3
 obtain ⟨G3, b7, X⟩ := Kd.at_int E5.out a M1 N1
 cases b7
 (try replace X := zX HB X)
 replace M1 := eq_true M1
 replace N1 := eq_true N1
 obtain ⟨y1, A1, B1, C1, D1, E1, F1, G1, I1, J1⟩ := zc5 u
 go_wp2
 go_loopg [8, 9, 30] k1 (fun kq v8 v9 v30 w' => ∃ (T : Int) (L : Int) (x : Int), v8 = .int .i64 T ∧ v9 = .int .i64 L ∧ v30 = .int .i64 x ∧ Aside0 (impl_Nest_lives.l1 kq E I a (rd l a) T L l (l.length : Int) a q (q.length : Int) x l A B q z = some r) ∧ Aside0 (kq ≤ k1) ∧ Aside0 (Kd.R Kd.bool 4 w' w.heap.size (fun _ => True) v437 E) ∧ Aside0 (Kd.R k52 52 w' w.heap.size (fun _ => True) u5 I) ∧ Aside0 (w'.heap[R1]? = some (.cells #[(.slice (some G3) l.length x0), (.slice y0 A.length A0), (.slice B0 B.length C0), (.slice I0 q.length D0), (.slice b0 z.length c0)] 34 (0, 0))) ∧ Aside0 (Below w.heap.size w w'))
 case atStart => exact ⟨((-1)), ((-1)), (0), zR, zR, zR, H', ⟨Nat.le_refl _⟩, ⟨zkR y⟩, ⟨zkR D⟩, ⟨zM u⟩, ⟨zB⟩⟩
 clear H'
 try clear c1
 try clear c2
 try clear p2
 try clear c4
 try clear p4
 try clear q4
 try clear i6
 try clear c9
 try clear M3
 try clear y3
 try clear E3
 try clear A3
 try clear F3
 try clear y1 A1 B1 C1 D1 E1 F1 G1 I1 J1
 try clear M0 N0 O0 R0 S0 T0 U0 V0 X0 a1
 try clear b1 d1 e1 g1 i1 j1 m1 n1 o1 p1
 try clear X
 try clear p2
 try clear M1
 try clear N1
 obtain ⟨T, L, x, rfl, rfl, rfl, HA, O, y, D, u, HB⟩ := hrel
 rcases gk with _ | k2
 · exact absurd HA.out (by simp [impl_Nest_lives.l1])
 have H := HA.out
 clear HA
 simp only [impl_Nest_lives.l1] at H
 by_cases S1 : x < (q.length : Int)
 · rw [if_pos S1] at H
   have I3 := z1 S1
   clear S1
   by_cases N3 : 0 ≤ x
   rotate_left
   · rw [if_neg N3] at H
     exact absurd H (by simp)
   rw [if_pos N3] at H
   have D4 := z1 N3
   clear N3
   by_cases O3 : x < (q.length : Int)
   rotate_left
   · rw [if_neg O3] at H
     exact absurd H (by simp)
   rw [if_pos O3] at H
   have E4 := z1 O3
   clear O3
   have j5 := zK H
   clear H
   have b2 : 0 ≤ (x : Int) := z3
   have d2 : x < (q.length : Int) := z3
   obtain ⟨G6, S4, T4, U4, V4, X4, a5, b5, d5, d7, j0, m0, n0, o0, p0, q0, s0, S3, T3, U3, V3, X3, a4, b4, d4⟩ := at_T79 F5.out x b2 d2
   cases d7
   (try replace j0 := zX HB j0)
   (try replace m0 := zX HB m0)
   (try replace n0 := zX HB n0)
   (try replace o0 := zX HB o0)
   (try replace p0 := zX HB p0)
   (try replace q0 := zX HB q0)
   (try replace s0 := zX HB s0)
   have U5 := zK T3
   have V5 := zK S3
   clear T3 S3
   have X5 := zK V3
   have a6 := zK U3
   clear V3 U3
   have b6 := zK a4
   have c6 := zK X3
   clear a4 X3
   have d6 := zK d4
   have e6 := zK b4
   clear d4 b4
   replace b2 := eq_true b2
   replace d2 := eq_true d2
   go_upto_region 10 with (first | ((with_reducible refine gd 11 rfl ?_); refine zJ 11 #[.slice none 0 0, .slice none 0 0, .int .i64 0, .int .i64 0, .slice none 0 0, .bool false, .slice none 0 0] 79 ?_; intro J5 hg o8 hbox hb; have e0 := zK (Kd.R_below (zkR y) hb); have g0 := zK (Kd.R_below (zkR D) hb); have i0 := z7 u hb; have L0 := z8 hb; have j6 := zK (hbox); have B7 := z9 hg; have C7 := z9 hg; have D7 := zHH hg u; have E7 := zGG hg u; revert e0 g0 i0 L0 j6 B7 C7 D7 E7; clear y D u HB; intro y D u HB J N7 O7 q1 s1; clear hb hbox hg; have R7 := s1.out; have S7 := q1.out; obtain ⟨e2, g2, i2, l2, m2, n2, o2, q2, s2, t2, x2, y2, B2, C2⟩ := zc7 J))
   (try simp only [Act.put, zq1, zq2, zq3])
   go_cut [45] (fun v45 wc => ∃ (kq : Nat) (T1 : Bool), v45 = .bool T1 ∧ Aside0 (impl_Nest_lives.j2 kq E I a (rd l a) T L x l (l.length : Int) a q (q.length : Int) x T1 l A B q z = some r) ∧ Aside0 (kq ≤ k2) ∧ Aside0 (Kd.R Kd.bool 4 wc w.heap.size (fun _ => True) v437 E) ∧ Aside0 (Kd.R k52 52 wc w.heap.size (fun _ => True) u5 I) ∧ Aside0 (wc.heap[R1]? = some (.cells #[(.slice (some G3) l.length x0), (.slice y0 A.length A0), (.slice B0 B.length C0), (.slice (some G6) q.length D0), (.slice b0 z.length c0)] 34 (0, 0))) ∧ Aside0 (wc.heap[J5]? = some (.cells #[(.slice S4 ((rd_T79 q x).f0).length T4), (.slice U4 ((rd_T79 q x).f1).length V4), .int .i64 ((rd_T79 q x).f2.f0), .int .i64 ((rd_T79 q x).f2.f1), (.slice X4 ((rd_T79 q x).f2.f2).length a5), .bool ((rd_T79 q x).f3), (.slice b5 ((rd_T79 q x).f4).length d5)] 79 (0, 0))) ∧ Aside0 (Below w.heap.size w wc))
   case first =>
    have H := j5.out
    clear j5
    by_cases L1 : ((rd_T79 q x).f2.f0) = a
    · rw [if_pos L1] at H
      have a0 := beq_iff_eq.mpr L1
      have J3 := bne_eq_false_iff_eq.mpr L1
      clear L1
      (first | rw [a0] | (simp only [i64_w, i32_w]; rw [a0]) | skip)
      have H' := zK H
      clear H
      have T7 := s1.out
      have U7 := q1.out
      obtain ⟨D2, E2, F2, G2, I2, J2, L2, M2, N2, O2, R2, T2, U2, V2⟩ := zc7 J
      go_wp2
      go_meet
      case rel => exact ⟨_, (true), zR, H', ⟨by have := M.out; have := O.out; first | omega | exact Nat.le_refl _⟩, ⟨Kd.R_mono (zlR (Kd.R_types y.out J.out (by decide))) (fun _ hk => trivial)⟩, ⟨Kd.R_mono (zlR (Kd.R_types D.out J.out (by decide))) (fun _ hk => trivial)⟩, ⟨zV u⟩, ⟨zW J⟩, ⟨zB⟩⟩
    rw [if_neg L1] at H
    have a0 := beq_eq_false_iff_ne.mpr L1
    have J3 := bne_iff_ne.mpr L1
    (first | rw [a0] | (simp only [i64_w, i32_w]; rw [a0]) | skip)
    replace H := z6 H
    obtain ⟨l6, m6, H⟩ := H
    have F7 := zK m6
    clear m6
    have H' := zK H
    clear H
    have V7 := s1.out
    have X7 := q1.out
    obtain ⟨X2, a3, b3, d3, e3, g3, i3, l3, m3, n3, o3, p3, s3, t3⟩ := zc7 J
    go_wp2_with (first | (go_at_call 49; (with_reducible refine (impl_Kernel_loadsOf.calls k2 _ _ ((rd_T79 q x).f0) _ _ ((rd_T79 q x).f1) ((rd_T79 q x).f2.f0) ((rd_T79 q x).f2.f1) _ _ ((rd_T79 q x).f2.f2) ((rd_T79 q x).f3) _ _ ((rd_T79 q x).f4) a l6 _ ?side1 ?side2 ?side3 ?side4 ?side5 ?side6 ?side7 ?side8 F7.out).mono ?_); (case side1 => exact z4 U5.out zB); (case side2 => exact V5.out); (case side3 => exact z4 X5.out zB); (case side4 => exact a6.out); (case side5 => exact z4 b6.out zB); (case side6 => exact c6.out); (case side7 => exact z4 d6.out zB); (case side8 => exact e6.out); rintro e p8 ⟨rfl, hb⟩; have e0 := zK (Kd.R_below (Kd.R_mono (zlR (Kd.R_types y.out J.out (by decide))) (fun _ h_ => h_.1)) hb); have g0 := zK (Kd.R_below (Kd.R_mono (zlR (Kd.R_types D.out J.out (by decide))) (fun _ h_ => h_.1)) hb); have i0 := zK (zg (zV u) hb); have L0 := zK (zg (g := J5) (o := .cells #[.slice S4 ((rd_T79 q x).f0).length T4, .slice U4 ((rd_T79 q x).f1).length V4, .int .i64 ((rd_T79 q x).f2.f0), .int .i64 ((rd_T79 q x).f2.f1), .slice X4 ((rd_T79 q x).f2.f2).length a5, .bool ((rd_T79 q x).f3), .slice b5 ((rd_T79 q x).f4).length d5] 79 (0, 0)) (zW J) hb); have j6 := z8 hb; revert e0 g0 i0 L0 j6; clear y D u J HB; intro y D u J HB))
    go_meet
    case rel => exact ⟨_, (decide (l6 > 0)), zR, H', ⟨by have := M.out; have := O.out; first | omega | exact Nat.le_refl _⟩, ⟨zkR y⟩, ⟨zkR D⟩, ⟨zM u⟩, ⟨zM J⟩, ⟨zB⟩⟩
   case rest =>
    clear j5
    try clear c1
    try clear c2
    try clear p2
    try clear c4
    try clear p4
    try clear q4
    try clear i6
    try clear c9
    try clear M3
    try clear y3
    try clear E3
    try clear A3
    try clear F3
    try clear S1
    try clear I3
    try clear N3
    try clear D4
    try clear O3
    try clear E4
    try clear S6
    try clear L1
    try clear a0
    try clear J3
    try clear T6
    try clear U6
    try clear V6
    try clear y1 A1 B1 C1 D1 E1 F1 G1 I1 J1
    try clear e2 g2 i2 l2 m2 n2 o2 q2 s2 t2 x2 y2 B2 C2
    try clear D2 E2 F2 G2 I2 J2 L2 M2 N2 O2 R2 T2 U2 V2
    try clear X2 a3 b3 d3 e3 g3 i3 l3 m3 n3 o3 p3 s3 t3
    try clear M0 N0 O0 R0 S0 T0 U0 V0 X0 a1
    try clear b1 d1 e1 g1 i1 j1 m1 n1 o1 p1
    try clear X
    try clear j0
    try clear m0
    try clear n0
    try clear o0
    try clear p0
    try clear q0
    try clear s0
    try clear p2
    try clear p4
    try clear M1
    try clear b2
    try clear q4
    try clear N1
    try clear d2
    obtain ⟨kq, T1, rfl, HA, x3, y, D, u, J, HB⟩ := hcut
    cases kq with
    | zero => exact absurd HA.out (by simp [impl_Nest_lives.j2])
    | succ l5 =>
     have H := HA.out
     clear HA
     simp only [impl_Nest_lives.j2] at H
     by_cases e4 : T1 = true
     rotate_left
     · replace e4 := Bool.eq_false_iff.mpr e4
       subst e4
       rw [if_neg (show ¬ (false = true) by decide)] at H
       have H' := zK H
       clear H
       go_wp2
       go_roundg l5
       case measure => have := M.out; have := O.out; have := x3.out; omega
       case rel => exact ⟨(T), (L), (wrap64 (x + 1)), zR, zR, zR, H', ⟨by have := M.out; have := O.out; have := x3.out; omega⟩, ⟨zkR y⟩, ⟨zkR D⟩, ⟨zM u⟩, ⟨zB⟩⟩
     subst e4
     rw [if_pos rfl] at H
     by_cases B3 : T < 0
     · rw [if_pos B3] at H
       have F4 := z1 B3
       clear B3
       have H' := zK H
       clear H
       go_wp2
       go_roundg l5
       case measure => have := M.out; have := O.out; have := x3.out; omega
       case rel => exact ⟨(x), (x), (wrap64 (x + 1)), zR, zR, zR, H', ⟨by have := M.out; have := O.out; have := x3.out; omega⟩, ⟨zkR y⟩, ⟨zkR D⟩, ⟨zM u⟩, ⟨zB⟩⟩
     rw [if_neg B3] at H
     have F4 := z2 B3
     clear B3
     have H' := zK H
     clear H
     go_wp2
     go_roundg l5
     case measure => have := M.out; have := O.out; have := x3.out; omega
     case rel => exact ⟨(T), (x), (wrap64 (x + 1)), zR, zR, zR, H', ⟨by have := M.out; have := O.out; have := x3.out; omega⟩, ⟨zkR y⟩, ⟨zkR D⟩, ⟨zM u⟩, ⟨zB⟩⟩
 rw [if_neg S1] at H
 have I3 := z2 S1
 clear S1
 replace H := z6 H
 obtain ⟨d0, n6, H⟩ := H
 have G7 := zK n6
 clear n6
 have m5 := zK H
 clear H
 obtain ⟨g4, i4, l4, m4, n4, o4, s4, t4, x4, y4⟩ := zc5 u
 go_upto_region 16 with (first | ((with_reducible refine gc 50 rfl ?_); refine zF 54 Try.func50 #[.slice b0 z.length c0, .int .i64 a] rfl zL ?_; refine (slices_Contains_int_int.calls k2 _ _ z a d0 _ (zS G5) I5.out G7.out).mono ?_; rintro e w' ⟨rfl, ⟨nd, rfl⟩⟩; refine ⟨_, rfl, ?_⟩))
 (try simp only [Act.put, zq1, zq2, zq3])
 go_cut [71] (fun v71 wc => ∃ (kq : Nat) (U1 : Bool), v71 = .bool U1 ∧ Aside0 (impl_Nest_lives.j3 kq E I a (rd l a) T L d0 l (l.length : Int) a U1 l A B q z = some r) ∧ Aside0 (kq ≤ k2) ∧ Aside0 (Kd.R Kd.bool 4 wc w.heap.size (fun _ => True) v437 E) ∧ Aside0 (Kd.R k52 52 wc w.heap.size (fun _ => True) u5 I) ∧ Aside0 (wc.heap[R1]? = some (.cells #[(.slice (some G3) l.length x0), (.slice y0 A.length A0), (.slice B0 B.length C0), (.slice I0 q.length D0), (.slice b0 z.length c0)] 34 (0, 0))) ∧ Aside0 (Below w.heap.size w wc))
 case first =>
  have H := m5.out
  clear m5
  by_cases V1 : (rd l a) = 0
  · rw [if_pos V1] at H
    have E0 := beq_iff_eq.mpr V1
    have G4 := bne_eq_false_iff_eq.mpr V1
    clear V1
    (first | rw [E0] | (simp only [i64_w, i32_w]; rw [E0]) | skip)
    have H' := zK H
    clear H
    go_wp2
    go_meet
    case rel => exact ⟨_, (true), zR, H', ⟨by have := M.out; have := O.out; first | omega | exact Nat.le_refl _⟩, ⟨zkR y⟩, ⟨zkR D⟩, ⟨zM u⟩, ⟨zB⟩⟩
  rw [if_neg V1] at H
  have E0 := beq_eq_false_iff_ne.mpr V1
  have G4 := bne_iff_ne.mpr V1
  (first | rw [E0] | (simp only [i64_w, i32_w]; rw [E0]) | skip)
  by_cases C3 : T < 0
  rotate_left
  · rw [if_neg C3] at H
    have I4 := z2 C3
    clear C3
    have H' := zK H
    clear H
    go_wp2
    go_meet
    case rel => exact ⟨_, (false), zR, H', ⟨by have := M.out; have := O.out; first | omega | exact Nat.le_refl _⟩, ⟨zkR y⟩, ⟨zkR D⟩, ⟨zM u⟩, ⟨zB⟩⟩
  rw [if_pos C3] at H
  have I4 := z1 C3
  clear C3
  by_cases A4 : 0 ≤ a
  rotate_left
  · rw [if_neg A4] at H
    exact absurd H (by simp)
  rw [if_pos A4] at H
  have L5 := z1 A4
  clear A4
  by_cases B4 : a < (E.length : Int)
  rotate_left
  · rw [if_neg B4] at H
    exact absurd H (by simp)
  rw [if_pos B4] at H
  have M5 := z1 B4
  clear B4
  obtain ⟨bq36, hbq36⟩ : ∃ b_ : Bool, b_ = (rdOf false E a) := ⟨_, rfl⟩
  replace H : (if bq36 = true then (impl_Nest_lives.j3 k2 E I a (rd l a) T L d0 l (l.length : Int) a false l A B q z) else (impl_Nest_lives.j3 k2 E I a (rd l a) T L d0 l (l.length : Int) a (!d0) l A B q z)) = some r := by rw [← hbq36] at H; exact H
  have Nbq36 := zK hbq36
  clear hbq36
  by_cases C4 : bq36 = true
  · subst C4
    rw [if_pos rfl] at H
    have H' := zK H
    clear H
    obtain ⟨e8, f8, e7⟩ := Kd.R_slice y.out
    subst e7
    have F0 : 0 ≤ (a : Int) := z3
    have G0 : a < (E.length : Int) := z3
    obtain ⟨I6, n5, t0⟩ := Kd.at_bool (Kd.R_reads' y.out).2.2 a F0 G0
    (try rw [← Nbq36.out] at t0)
    cases n5
    replace F0 := eq_true F0
    replace G0 := eq_true G0
    go_wp2
    go_meet
    case rel => exact ⟨_, (false), zR, H', ⟨by have := M.out; have := O.out; first | omega | exact Nat.le_refl _⟩, ⟨zkR y⟩, ⟨zkR D⟩, ⟨zM u⟩, ⟨zB⟩⟩
  replace C4 := Bool.eq_false_iff.mpr C4
  subst C4
  rw [if_neg (show ¬ (false = true) by decide)] at H
  have H' := zK H
  clear H
  obtain ⟨g8, i8, f7⟩ := Kd.R_slice y.out
  subst f7
  have F0 : 0 ≤ (a : Int) := z3
  have G0 : a < (E.length : Int) := z3
  obtain ⟨I6, n5, t0⟩ := Kd.at_bool (Kd.R_reads' y.out).2.2 a F0 G0
  (try rw [← Nbq36.out] at t0)
  cases n5
  replace F0 := eq_true F0
  replace G0 := eq_true G0
  go_wp2
  go_meet
  case rel => exact ⟨_, (!d0), zR, H', ⟨by have := M.out; have := O.out; first | omega | exact Nat.le_refl _⟩, ⟨zkR y⟩, ⟨zkR D⟩, ⟨zM u⟩, ⟨zB⟩⟩
 case rest =>
  clear m5
  try clear c1
  try clear c2
  try clear p2
  try clear c3
  try clear q3
  try clear c4
  try clear p4
  try clear q4
  try clear i6
  try clear c5
  try clear p6
  try clear c9
  try clear M3
  try clear y3
  try clear E3
  try clear A3
  try clear F3
  try clear S1
  try clear I3
  try clear N3
  try clear D4
  try clear O3
  try clear E4
  try clear S6
  try clear L1
  try clear a0
  try clear J3
  try clear T6
  try clear U6
  try clear V6
  try clear e4
  try clear B3
  try clear F4
  try clear V1
  try clear E0
  try clear G4
  try clear C3
  try clear I4
  try clear A4
  try clear L5
  try clear B4
  try clear M5
  try clear X6
  try clear C4
  try clear y1 A1 B1 C1 D1 E1 F1 G1 I1 J1
  try clear e2 g2 i2 l2 m2 n2 o2 q2 s2 t2 x2 y2 B2 C2
  try clear D2 E2 F2 G2 I2 J2 L2 M2 N2 O2 R2 T2 U2 V2
  try clear X2 a3 b3 d3 e3 g3 i3 l3 m3 n3 o3 p3 s3 t3
  try clear g4 i4 l4 m4 n4 o4 s4 t4 x4 y4
  try clear M0 N0 O0 R0 S0 T0 U0 V0 X0 a1
  try clear b1 d1 e1 g1 i1 j1 m1 n1 o1 p1
  try clear X
  try clear j0
  try clear m0
  try clear n0
  try clear o0
  try clear p0
  try clear q0
  try clear s0
  try clear t0
  try clear p2
  try clear p4
  try clear M1
  try clear b2
  try clear F0
  try clear q4
  try clear N1
  try clear d2
  try clear G0
  obtain ⟨kq, U1, rfl, HA, t1, y, D, u, HB⟩ := hcut
  cases kq with
  | zero => exact absurd HA.out (by simp [impl_Nest_lives.j3])
  | succ J4 =>
   have H := HA.out
   clear HA
   simp only [impl_Nest_lives.j3] at H
   by_cases e5 : U1 = true
   · subst e5
     rw [if_pos rfl] at H
     have H' := zK H
     clear H
     go_wp2
     go_roundg J4
     case measure => have := M.out; have := O.out; have := t1.out; omega
     case rel => exact ⟨(I), (wrap64 (a + 1)), zR, H', ⟨by have := M.out; have := O.out; have := t1.out; omega⟩, ⟨zkR y⟩, ⟨zkR D⟩, ⟨zM u⟩, ⟨zB⟩⟩
   replace e5 := Bool.eq_false_iff.mpr e5
   subst e5
   rw [if_neg (show ¬ (false = true) by decide)] at H
   by_cases f5 : 0 ≤ a
   rotate_left
   · rw [if_neg f5] at H
     exact absurd H (by simp)
   rw [if_pos f5] at H
   have J6 := z1 f5
   clear f5
   by_cases g5 : a < (E.length : Int)
   rotate_left
   · rw [if_neg g5] at H
     exact absurd H (by simp)
   rw [if_pos g5] at H
   have L6 := z1 g5
   clear g5
   have o5 := zK H
   clear H
   obtain ⟨m8, g7, i7⟩ := Kd.R_slice y.out
   subst i7
   have L4 : 0 ≤ (a : Int) := z3
   have M4 : a < (E.length : Int) := z3
   obtain ⟨M6, j7, f6⟩ := Kd.at_bool (Kd.R_reads' y.out).2.2 a L4 M4
   cases j7
   replace L4 := eq_true L4
   replace M4 := eq_true M4
   go_upto_if 75 with (fail)
   go_cut [8] (fun v8 wc => ∃ (kq : Nat) (U : Int), v8 = .int .i64 U ∧ Aside0 (impl_Nest_lives.j4 kq E I a (rd l a) U L d0 l (l.length : Int) a l A B q z = some r) ∧ Aside0 (kq ≤ J4) ∧ Aside0 (Kd.R Kd.bool 4 wc w.heap.size (fun _ => True) (.slice (some M6) E.length g7) E) ∧ Aside0 (Kd.R k52 52 wc w.heap.size (fun _ => True) u5 I) ∧ Aside0 (wc.heap[R1]? = some (.cells #[(.slice (some G3) l.length x0), (.slice y0 A.length A0), (.slice B0 B.length C0), (.slice I0 q.length D0), (.slice b0 z.length c0)] 34 (0, 0))) ∧ Aside0 (Below w.heap.size w wc))
   case first =>
    have H := o5.out
    clear o5
    obtain ⟨bq45, hbq45⟩ : ∃ b_ : Bool, b_ = (rdOf false E a) := ⟨_, rfl⟩
    replace H : (if bq45 = true then (impl_Nest_lives.j4 J4 E I a (rd l a) 0 L d0 l (l.length : Int) a l A B q z) else (impl_Nest_lives.j4 J4 E I a (rd l a) T L d0 l (l.length : Int) a l A B q z)) = some r := by rw [← hbq45] at H; exact H
    have Nbq45 := zK hbq45
    clear hbq45
    (try rw [← Nbq45.out])
    by_cases i5 : bq45 = true
    · subst i5
      rw [if_pos rfl] at H
      have H' := zK H
      clear H
      go_wp2
      go_meet
      case rel => exact ⟨_, (0), zR, H', ⟨by have := M.out; have := O.out; have := t1.out; first | omega | exact Nat.le_refl _⟩, ⟨zkR y⟩, ⟨zkR D⟩, ⟨zM u⟩, ⟨zB⟩⟩
    replace i5 := Bool.eq_false_iff.mpr i5
    subst i5
    rw [if_neg (show ¬ (false = true) by decide)] at H
    have H' := zK H
    clear H
    go_wp2
    go_meet
    case rel => exact ⟨_, (T), zR, H', ⟨by have := M.out; have := O.out; have := t1.out; first | omega | exact Nat.le_refl _⟩, ⟨zkR y⟩, ⟨zkR D⟩, ⟨zM u⟩, ⟨zB⟩⟩
   case rest =>
    clear o5
    try clear c1
    try clear c2
    try clear p2
    try clear c3
    try clear q3
    try clear c4
    try clear p4
    try clear q4
    try clear i6
    try clear c5
    try clear p6
    try clear c9
    try clear M3
    try clear y3
    try clear E3
    try clear A3
    try clear F3
    try clear S1
    try clear I3
    try clear N3
    try clear D4
    try clear O3
    try clear E4
    try clear S6
    try clear L1
    try clear a0
    try clear J3
    try clear T6
    try clear U6
    try clear V6
    try clear e4
    try clear B3
    try clear F4
    try clear V1
    try clear E0
    try clear G4
    try clear C3
    try clear I4
    try clear A4
    try clear L5
    try clear B4
    try clear M5
    try clear X6
    try clear C4
    try clear e5
    try clear f5
    try clear J6
    try clear g5
    try clear L6
    try clear q8
    try clear s8
    try clear t8
    try clear n8
    try clear x8
    try clear i5
    try clear y1 A1 B1 C1 D1 E1 F1 G1 I1 J1
    try clear e2 g2 i2 l2 m2 n2 o2 q2 s2 t2 x2 y2 B2 C2
    try clear D2 E2 F2 G2 I2 J2 L2 M2 N2 O2 R2 T2 U2 V2
    try clear X2 a3 b3 d3 e3 g3 i3 l3 m3 n3 o3 p3 s3 t3
    try clear g4 i4 l4 m4 n4 o4 s4 t4 x4 y4
    try clear M0 N0 O0 R0 S0 T0 U0 V0 X0 a1
    try clear b1 d1 e1 g1 i1 j1 m1 n1 o1 p1
    try clear X
    try clear j0
    try clear m0
    try clear n0
    try clear o0
    try clear p0
    try clear q0
    try clear s0
    try clear t0
    try clear f6
    try clear p2
    try clear p4
    try clear M1
    try clear b2
    try clear F0
    try clear L4
    try clear p6
    try clear q3
    try clear X6
    try clear q4
    try clear N1
    try clear d2
    try clear G0
    try clear M4
    obtain ⟨kq, U, rfl, HA, N4, y, D, u, HB⟩ := hcut
    cases kq with
    | zero => exact absurd HA.out (by simp [impl_Nest_lives.j4])
    | succ x1 =>
     have H := HA.out
     clear HA
     simp only [impl_Nest_lives.j4] at H
     by_cases N5 : d0 = true
     rotate_left
     · replace N5 := Bool.eq_false_iff.mpr N5
       subst N5
       rw [if_neg (show ¬ (false = true) by decide)] at H
       obtain ⟨ji53, hji53⟩ : ∃ j_ : Int, (mx U 0) = j_ := ⟨_, rfl⟩
       replace H : (if I.length < 4398046511104 then (impl_Nest_lives.l0 x1 E (I ++ [(⟨a, (rd l a), ji53, mx L 0⟩ : S52)]) l (l.length : Int) (wrap64 (a + 1)) l A B q z) else (none)) = some r := by first | (rw [hji53] at H; exact H) | (simp only [hji53] at H ⊢; exact H)
       have hji53_ : (if U < 0 then 0 else U) = ji53 := hji53
       obtain ⟨ji54, hji54⟩ : ∃ j_ : Int, (mx L 0) = j_ := ⟨_, rfl⟩
       replace H : (if I.length < 4398046511104 then (impl_Nest_lives.l0 x1 E (I ++ [(⟨a, (rd l a), ji53, ji54⟩ : S52)]) l (l.length : Int) (wrap64 (a + 1)) l A B q z) else (none)) = some r := by first | (rw [hji54] at H; exact H) | (simp only [hji54] at H ⊢; exact H)
       have hji54_ : (if L < 0 then 0 else L) = ji54 := hji54
       by_cases O5 : I.length < 4398046511104
       rotate_left
       · rw [if_neg O5] at H
         exact absurd H (by simp)
       rw [if_pos O5] at H
       have LMc55 := zK O5
       clear O5
       obtain ⟨o6, X1⟩ : ∃ y_ : List (S52), y_ = (I ++ [(⟨a, (rd l a), ji53, ji54⟩ : S52)]) := ⟨_, rfl⟩
       replace H : (impl_Nest_lives.l0 x1 E o6 l (l.length : Int) (wrap64 (a + 1)) l A B q z) = some r := by first | (rw [X1]; with_reducible exact H) | (have J0 := (Option.bind_some _ _).symm.trans H; rw [X1]; with_reducible exact J0) | (have J0 := (Option.bind_some _ _).symm.trans H; with_reducible exact J0) | with_reducible exact H | (rw [X1]; exact H) | exact H
       have Ny453 := zK X1
       clear X1
       have H' := zK H
       clear H
       go_wp2_with (first | ((with_reducible refine gate_builtin (b := .append) (xs := #[.tmp 80, .tmp 88]) rfl ?_); at_builtin; refine Kd.R_append k52 (w0 := w) w.heap.size rfl (.tmp 80) (.tmp 88) 41 52 (.agg #[(.int .i64 0), (.int .i64 0), (.int .i64 0), (.int .i64 0)]) 32 rfl Try.underlying41 info52 rfl (by decide) (by omega) u5 I (⟨a, (rd l a), ji53, ji54⟩ : S52) [.int .i64 a, .int .i64 (rd l a), .int .i64 ji53, .int .i64 ji54] (fun _ => True) (fun _ => False) rfl rfl ?aP (fun _ hk => hk.elim) ?aF ?aO ?aB ?aS ?aL ?_; (case aP => exact k52_mkM _ _ _ (⟨a, (rd l a), ji53, ji54⟩ : S52)); (case aB => exact zB); (case aF => exact (fun _ _ => trivial)); (case aO => exact (zkR D)); (case aS => exact (zz zB)); (case aL => have := LMc55.out; omega); intro v454 y8 ho hb hg hat; rw [← Ny453.out] at ho; have e0 := zK (Kd.R_over' (zkR y) (Kd.R_typed (zkR D)) (by decide) hg); have g0 := zK (blk_grown (zM u) hg (Kd.R_ne D.out u.out (by decide))); have i0 := zK (hb); have L0 := zK (ho); revert e0 g0 i0 L0; clear y u HB D; intro y u HB N6; clear ho hb hg hat))
       go_roundg x1
       case measure => have := M.out; have := O.out; have := t1.out; have := N4.out; omega
       case rel => exact ⟨(o6), (wrap64 (a + 1)), zR, H', ⟨by have := M.out; have := O.out; have := t1.out; have := N4.out; omega⟩, ⟨zkR y⟩, ⟨zkR N6⟩, ⟨zM u⟩, ⟨zB⟩⟩
     subst N5
     rw [if_pos rfl] at H
     obtain ⟨ji48, hji48⟩ : ∃ j_ : Int, (mx U 0) = j_ := ⟨_, rfl⟩
     replace H : (if I.length < 4398046511104 then (impl_Nest_lives.l0 x1 E (I ++ [(⟨a, (rd l a), ji48, mx (q.length : Int) 0⟩ : S52)]) l (l.length : Int) (wrap64 (a + 1)) l A B q z) else (none)) = some r := by first | (rw [hji48] at H; exact H) | (simp only [hji48] at H ⊢; exact H)
     have hji48_ : (if U < 0 then 0 else U) = ji48 := hji48
     obtain ⟨ji49, hji49⟩ : ∃ j_ : Int, (mx (q.length : Int) 0) = j_ := ⟨_, rfl⟩
     replace H : (if I.length < 4398046511104 then (impl_Nest_lives.l0 x1 E (I ++ [(⟨a, (rd l a), ji48, ji49⟩ : S52)]) l (l.length : Int) (wrap64 (a + 1)) l A B q z) else (none)) = some r := by first | (rw [hji49] at H; exact H) | (simp only [hji49] at H ⊢; exact H)
     have hji49_ : (if (q.length : Int) < 0 then 0 else (q.length : Int)) = ji49 := hji49
     obtain rfl : (q.length : Int) = ji49 := by rw [← hji49_]; exact (if_neg (by omega)).symm
     by_cases R5 : I.length < 4398046511104
     rotate_left
     · rw [if_neg R5] at H
       exact absurd H (by simp)
     rw [if_pos R5] at H
     have LMc50 := zK R5
     clear R5
     obtain ⟨q6, a2⟩ : ∃ y_ : List (S52), y_ = (I ++ [(⟨a, (rd l a), ji48, (q.length : Int)⟩ : S52)]) := ⟨_, rfl⟩
     replace H : (impl_Nest_lives.l0 x1 E q6 l (l.length : Int) (wrap64 (a + 1)) l A B q z) = some r := by first | (rw [a2]; with_reducible exact H) | (have J0 := (Option.bind_some _ _).symm.trans H; rw [a2]; with_reducible exact J0) | (have J0 := (Option.bind_some _ _).symm.trans H; with_reducible exact J0) | with_reducible exact H | (rw [a2]; exact H) | exact H
     have Ny450 := zK a2
     clear a2
     have H' := zK H
     clear H
     obtain ⟨l7, m7, n7, o7, p7, q7, s7, t7, x7, y7⟩ := zc5 u
     go_wp2_with (first | ((with_reducible refine gate_builtin (b := .append) (xs := #[.tmp 80, .tmp 88]) rfl ?_); at_builtin; refine Kd.R_append k52 (w0 := w) w.heap.size rfl (.tmp 80) (.tmp 88) 41 52 (.agg #[(.int .i64 0), (.int .i64 0), (.int .i64 0), (.int .i64 0)]) 32 rfl Try.underlying41 info52 rfl (by decide) (by omega) u5 I (⟨a, (rd l a), ji48, (q.length : Int)⟩ : S52) [.int .i64 a, .int .i64 (rd l a), .int .i64 ji48, .int .i64 (q.length : Int)] (fun _ => True) (fun _ => False) rfl rfl ?aP (fun _ hk => hk.elim) ?aF ?aO ?aB ?aS ?aL ?_; (case aP => exact k52_mkM _ _ _ (⟨a, (rd l a), ji48, (q.length : Int)⟩ : S52)); (case aB => exact zB); (case aF => exact (fun _ _ => trivial)); (case aO => exact (zkR D)); (case aS => exact (zz zB)); (case aL => have := LMc50.out; omega); intro v451 A8 ho hb hg hat; rw [← Ny450.out] at ho; have e0 := zK (Kd.R_over' (zkR y) (Kd.R_typed (zkR D)) (by decide) hg); have g0 := zK (blk_grown (zM u) hg (Kd.R_ne D.out u.out (by decide))); have i0 := zK (hb); have L0 := zK (ho); revert e0 g0 i0 L0; clear y u HB D; intro y u HB O6; clear ho hb hg hat))
     go_roundg x1
     case measure => have := M.out; have := O.out; have := t1.out; have := N4.out; omega
     case rel => exact ⟨(q6), (wrap64 (a + 1)), zR, H', ⟨by have := M.out; have := O.out; have := t1.out; have := N4.out; omega⟩, ⟨zkR y⟩, ⟨zkR O6⟩, ⟨zM u⟩, ⟨zB⟩⟩
end Go.Proofs.Ytmcboiffbcnalaa.PFnExactPlanOk
