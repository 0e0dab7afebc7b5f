-- Printed out of the translation by this session's own turned copy of a printer; Lean checks it.
import Derived.Test.YtmcboiffbcnalaaPFnExactLivesx0
import Derived.Test.YtmcboiffbcnalaaPFnExactLivesx11
import Derived.Test.YtmcboiffbcnalaaPFnExactLivesx17
namespace Go.Proofs.Ytmcboiffbcnalaa.PFnExactLives
open Go.RowKit Go.Proofs.YtmcboiffbcnalaaW.PrintWords Go.Proofs.YtmcboiffbcnalaaW.PrintLast Go.Proofs.YtmcboiffbcnalaaW.PrintMore
attribute [local go_sem] max2_int min2_int max_two min_two max_three min_three max_four min_four
set_option linter.unusedVariables false
set_option linter.unusedSimpArgs false
set_option maxHeartbeats 8000000
set_option maxRecDepth 100000
mutual
def impl_Nest_lives.l0 : Nat → List Bool → List (S52) → List Int → Int → Int → List Int → List Int → List (S71) → List (S79) → List Int → Option ((List (S52)))
 | 0, _, _, _, _, _, _, _, _, _, _ => none
 | k + 1, J, I, B, E, q, u, y, z, l, A => if q < E then (if 0 ≤ q then (if q < (B.length : Int) then (impl_Nest_lives.l1 k J I q (rd B q) (-1) (-1) B E q l (l.length : Int) 0 u y z l A) else (none)) else (none)) else (some I)
def impl_Nest_lives.l1 : Nat → List Bool → List (S52) → Int → Int → Int → Int → List Int → Int → Int → List (S79) → Int → Int → List Int → List Int → List (S71) → List (S79) → List Int → Option ((List (S52)))
 | 0, _, _, _, _, _, _, _, _, _, _, _, _, _, _, _, _, _ => none
 | k + 1, O, X, E, T, U, x9, J, L, M, B, b0, A, q, u, y, z, l => if A < b0 then (if 0 ≤ A then (if A < (B.length : Int) then (if ((rd_T79 B A).f2.f0) = E then (impl_Nest_lives.j2 k O X E T U x9 A J L M B b0 A true q u y z l) else ((impl_Kernel_loadsOf.f k ((rd_T79 B A).f0) ((rd_T79 B A).f1) ((rd_T79 B A).f2.f0) ((rd_T79 B A).f2.f1) ((rd_T79 B A).f2.f2) ((rd_T79 B A).f3) ((rd_T79 B A).f4) E).bind fun c0 => (impl_Nest_lives.j2 k O X E T U x9 A J L M B b0 A (decide (c0 > 0)) q u y z l))) else (none)) else (none)) else ((slices_Contains_int_int.f k l E).bind fun I => (if T = 0 then (impl_Nest_lives.j3 k O X E T U x9 I J L M true q u y z l) else (if U < 0 then (if 0 ≤ E then (if E < (O.length : Int) then (if rdOf false O E = true then (impl_Nest_lives.j3 k O X E T U x9 I J L M false q u y z l) else (impl_Nest_lives.j3 k O X E T U x9 I J L M (!I) q u y z l)) else (none)) else (none)) else (impl_Nest_lives.j3 k O X E T U x9 I J L M false q u y z l))))
def impl_Nest_lives.j2 : Nat → List Bool → List (S52) → Int → Int → Int → Int → Int → List Int → Int → Int → List (S79) → Int → Int → Bool → List Int → List Int → List (S71) → List (S79) → List Int → Option ((List (S52)))
 | 0, _, _, _, _, _, _, _, _, _, _, _, _, _, _, _, _, _, _, _ => none
 | k + 1, O, T, U, X, x8, x9, A, B, E, I, J, L, M, b0, l, q, u, y, z => if b0 = true then (if x8 < 0 then (impl_Nest_lives.l1 k O T U X A A B E I J L (wrap64 (M + 1)) l q u y z) else (impl_Nest_lives.l1 k O T U X x8 A B E I J L (wrap64 (M + 1)) l q u y z)) else (impl_Nest_lives.l1 k O T U X x8 x9 B E I J L (wrap64 (M + 1)) l q u y z)
def impl_Nest_lives.j3 : Nat → List Bool → List (S52) → Int → Int → Int → Int → Bool → List Int → Int → Int → Bool → List Int → List Int → List (S71) → List (S79) → List Int → Option ((List (S52)))
 | 0, _, _, _, _, _, _, _, _, _, _, _, _, _, _, _, _ => none
 | k + 1, A, M, B, O, X, T, L, E, I, J, U, l, q, u, y, z => if U = true then (impl_Nest_lives.l0 k A M E I (wrap64 (J + 1)) l q u y z) else (if 0 ≤ B then (if B < (A.length : Int) then (if rdOf false A B = true then (impl_Nest_lives.j4 k A M B O 0 T L E I J l q u y z) else (impl_Nest_lives.j4 k A M B O X T L E I J l q u y z)) else (none)) else (none))
def impl_Nest_lives.j4 : Nat → List Bool → List (S52) → Int → Int → Int → Int → Bool → List Int → Int → Int → List Int → List Int → List (S71) → List (S79) → List Int → Option ((List (S52)))
 | 0, _, _, _, _, _, _, _, _, _, _, _, _, _, _, _ => none
 | k + 1, J, A, L, M, O, U, T, B, E, I, q, u, y, l, z => if T = true then (if A.length < 4398046511104 then (impl_Nest_lives.l0 k J (A ++ [(⟨L, M, mx O 0, mx (l.length : Int) 0⟩ : S52)]) B E (wrap64 (I + 1)) q u y l z) else (none)) else (if A.length < 4398046511104 then (impl_Nest_lives.l0 k J (A ++ [(⟨L, M, mx O 0, mx U 0⟩ : S52)]) B E (wrap64 (I + 1)) q u y l z) else (none))
end
def impl_Nest_lives.f (k : Nat) (l : List Int) (q : List Int) (u : List (S71)) (y : List (S79)) (z : List Int) : Option ((List (S52))) := (impl_Nest_given.f l q u y z).bind fun A => (impl_Nest_lives.l0 k A.1 (([] : List (S52))) l (l.length : Int) 0 l q u y z)
theorem impl_Nest_lives.calls (k) (R3) (B0) (q : List Int) (C0) (D0) (E : List Int) (E0) (F0) (I : List (S71)) (M0) (G0) (u : List (S79)) (e0) (g0) (B : List Int) (r : List (S52)) (w) (t5 : Kd.C (Kd.int .i64) w R3 q.length q) (x5 : q.length ≤ B0) (y5 : Kd.C (Kd.int .i64) w C0 E.length E) (A5 : E.length ≤ D0) (B5 : Kd.C k71 w E0 I.length I) (C5 : I.length ≤ F0) (D5 : Kd.C k79 w M0 u.length u) (E5 : u.length ≤ G0) (F5 : Kd.C (Kd.int .i64) w e0 B.length B) (G5 : B.length ≤ g0) (h : impl_Nest_lives.f k q E I u B = some r) :
 Calls Try.prog 25 #[.agg #[.slice R3 q.length B0, .slice C0 E.length D0, .slice E0 I.length F0, .slice M0 u.length G0, .slice e0 B.length g0]] w fun e w' => ∃ v0_ : Value, e = .returned (v0_) ∧ Kd.R k52 52 w' w.heap.size (fun _ => True) v0_ r ∧ Below w.heap.size w w' := by
 have i8 := Try.underlying34
 have j8 := Try.underlying79
 have l8 := Try.underlying52
 have I5 := zK t5
 have y6 := zK x5
 clear t5 x5
 have A6 := zK y5
 have B6 := zK A5
 clear y5 A5
 have C6 := zK B5
 have D6 := zK C5
 clear B5 C5
 have J5 := zK D5
 have E6 := zK E5
 clear D5 E5
 have L5 := zK F5
 have M5 := zK G5
 clear F5 G5
 have HB := zK (Below.refl w.heap.size w)
 have H : ((impl_Nest_given.f q E I u B).bind fun F6 => (impl_Nest_lives.l0 k F6.1 (([] : List (S52))) q (q.length : Int) 0 q E I u B)) = some r := h
 clear h
 replace H := z6 H
 obtain ⟨⟨L, f7⟩, U6, H⟩ := H
 replace H : (impl_Nest_lives.l0 k L (([] : List (S52))) q (q.length : Int) 0 q E I u B) = some r := H
 have A2 := zK U6
 clear U6
 obtain ⟨l6, T1⟩ : ∃ y_ : List (S52), y_ = (([] : List (S52))) := ⟨_, rfl⟩
 replace H : (impl_Nest_lives.l0 k L l6 q (q.length : Int) 0 q E I u B) = some r := by first | (rw [T1]; with_reducible exact H) | (have N0 := (Option.bind_some _ _).symm.trans H; rw [T1]; with_reducible exact N0) | (have N0 := (Option.bind_some _ _).symm.trans H; with_reducible exact N0) | with_reducible exact H | (rw [T1]; exact H) | exact H
 have Ny377 := zK T1
 clear T1
 have H' := zK H
 clear H
 go_enter Try.func25, Try.ntmps25
 go_wp2_with (first | ((with_reducible refine gd 1 rfl ?_); refine zJ 1 #[.slice R3 q.length B0, .slice C0 E.length D0, .slice E0 I.length F0, .slice M0 u.length G0, .slice e0 B.length g0] 34 ?_; intro U1 hg w3 hbox hb; have j0 := z8 hb; have m0 := zK (hbox); have n0 := z9 hg; have O0 := z9 hg; revert j0 m0 n0 O0; clear HB; intro HB y U7 V7; clear hb hbox hg; obtain ⟨R0, S0, T0, U0, V0, X0, a1, b1, d1, e1⟩ := zc5 y) | ((with_reducible refine gc 47 rfl ?_); refine zF 15 Try.func47 #[.agg #[.slice R3 q.length B0, .slice C0 E.length D0, .slice E0 I.length F0, .slice M0 u.length G0, .slice e0 B.length g0]] rfl zL ?_; refine (impl_Nest_given.calls _ _ q _ _ E _ _ I _ _ u _ _ B L f7 _ (zS I5) y6.out (zS A6) B6.out (zS C6) D6.out (zS J5) E6.out (zS L5) M5.out A2.out).mono ?_; rintro e w5 ⟨v374, rfl, G7, hb⟩; refine ⟨_, rfl, ?_⟩; have j0 := zK (Kd.R_lower G7 (zz zB)); have m0 := z7 y hb; have n0 := z8 hb; revert j0 m0 n0; clear y HB; intro I3 y HB) | ((with_reducible refine gd 18 rfl ?_); refine Kd.R_lit k52 _ 52 ?hg (N := 18) ?hd (xs := ([] : List (S52))) (inner := []) (ok := fun _ => True) (okp := fun _ => True) ?hr ?hp (fun _ hk => hk) trivial (Below.refl _ _) (Nat.le_refl _) (by simp) ?_; (case hd => rfl); (case hg => rfl); (case hr => first | (go_simp; done) | (go_simp; rfl)); (case hp => exact (Reps.none _ _)); intro v378 w6 T4 hb hg_ hnew_; clear hg_ hnew_; (first | rw [← Ny377.out] at T4 | (simp only [Int.reduceToNat] at T4; rw [← Ny377.out] at T4)); have j0 := zK (Kd.R_below (zkR I3) hb); have m0 := zK (Kd.R_lower T4 (zz zB)); have n0 := z7 y hb; have O0 := z8 hb; revert j0 m0 n0 O0; clear I3 y HB; intro I3 G6 y HB; clear hb T4; obtain ⟨g1, i1, j1, m1, n1, o1, p1, q1, s1, t1⟩ := zc5 y))
 go_loopg [5, 22] k (fun kq v5 v22 w' => ∃ (M : List (S52)) (l : Int), v22 = .int .i64 l ∧ Aside0 (impl_Nest_lives.l0 kq L M q (q.length : Int) l q E I u B = some r) ∧ Aside0 (kq ≤ k) ∧ Aside0 (Kd.R Kd.bool 4 w' w.heap.size (fun _ => True) v374 L) ∧ Aside0 (Kd.R k52 52 w' w.heap.size (fun _ => True) v5 M) ∧ Aside0 (w'.heap[U1]? = some (.cells #[(.slice R3 q.length B0), (.slice C0 E.length D0), (.slice E0 I.length F0), (.slice M0 u.length G0), (.slice e0 B.length g0)] 34 (0, 0))) ∧ Aside0 (Below w.heap.size w w'))
 case atStart => exact ⟨(l6), (0), zR, H', ⟨Nat.le_refl _⟩, ⟨zkR I3⟩, ⟨zkR G6⟩, ⟨zM y⟩, ⟨zB⟩⟩
 clear H'
 try clear c2
 try clear p2
 try clear c4
 try clear R0 S0 T0 U0 V0 X0 a1 b1 d1 e1
 try clear g1 i1 j1 m1 n1 o1 p1 q1 s1 t1
 obtain ⟨M, l, rfl, HA, U, A, J, y, HB⟩ := hrel
 rcases gk with _ | k1
 · exact absurd HA.out (by simp [impl_Nest_lives.l0])
 have H := HA.out
 clear HA
 simp only [impl_Nest_lives.l0] at H
 by_cases c9 : l < (q.length : Int)
 rotate_left
 · rw [if_neg c9] at H
   have S3 := z2 c9
   clear c9
   obtain rfl := z5 H
   go_wp2
   go_ret
   exact ⟨_, zE, zkR J, zB⟩
 rw [if_pos c9] at H
 have S3 := z1 c9
 clear c9
 by_cases D3 : 0 ≤ l
 rotate_left
 · rw [if_neg D3] at H
   exact absurd H (by simp)
 rw [if_pos D3] at H
 have J3 := z1 D3
 clear D3
 by_cases E3 : l < (q.length : Int)
 rotate_left
 · rw [if_neg E3] at H
   exact absurd H (by simp)
 rw [if_pos E3] at H
 have L3 := z1 E3
 clear E3
 have H' := zK H
 clear H
 have R1 : 0 ≤ (l : Int) := z3
 have S1 : l < (q.length : Int) := z3
 obtain ⟨M3, g7, c0⟩ := Kd.at_int I5.out l R1 S1
 cases g7
 (try replace c0 := zX HB c0)
 replace R1 := eq_true R1
 replace S1 := eq_true S1
 obtain ⟨C1, D1, E1, F1, G1, I1, J1, L1, M1, N1⟩ := zc5 y
 go_wp2
 go_loopg [8, 9, 30] k1 (fun kq v8 v9 v30 w' => ∃ (a0 : Int) (T : Int) (z : Int), v8 = .int .i64 a0 ∧ v9 = .int .i64 T ∧ v30 = .int .i64 z ∧ Aside0 (impl_Nest_lives.l1 kq L M l (rd q l) a0 T q (q.length : Int) l u (u.length : Int) z q E I u B = some r) ∧ Aside0 (kq ≤ k1) ∧ Aside0 (Kd.R Kd.bool 4 w' w.heap.size (fun _ => True) v374 L) ∧ Aside0 (Kd.R k52 52 w' w.heap.size (fun _ => True) u5 M) ∧ Aside0 (w'.heap[U1]? = some (.cells #[(.slice (some M3) q.length B0), (.slice C0 E.length D0), (.slice E0 I.length F0), (.slice M0 u.length G0), (.slice e0 B.length g0)] 34 (0, 0))) ∧ Aside0 (Below w.heap.size w w'))
 case atStart => exact ⟨((-1)), ((-1)), (0), zR, zR, zR, H', ⟨Nat.le_refl _⟩, ⟨zkR A⟩, ⟨zkR J⟩, ⟨zM y⟩, ⟨zB⟩⟩
 clear H'
 try clear c1
 try clear c2
 try clear p2
 try clear p3
 try clear q3
 try clear m6
 try clear c4
 try clear c9
 try clear S3
 try clear D3
 try clear J3
 try clear E3
 try clear L3
 try clear C1 D1 E1 F1 G1 I1 J1 L1 M1 N1
 try clear R0 S0 T0 U0 V0 X0 a1 b1 d1 e1
 try clear g1 i1 j1 m1 n1 o1 p1 q1 s1 t1
 try clear c0
 try clear p2
 try clear R1
 try clear S1
 obtain ⟨a0, T, z, rfl, rfl, rfl, HA, X, A, J, y, HB⟩ := hrel
 rcases gk with _ | k2
 · exact absurd HA.out (by simp [impl_Nest_lives.l1])
 have H := HA.out
 clear HA
 simp only [impl_Nest_lives.l1] at H
 by_cases V1 : z < (u.length : Int)
 · rw [if_pos V1] at H
   have N3 := z1 V1
   clear V1
   by_cases T3 : 0 ≤ z
   rotate_left
   · rw [if_neg T3] at H
     exact absurd H (by simp)
   rw [if_pos T3] at H
   have G4 := z1 T3
   clear T3
   by_cases U3 : z < (u.length : Int)
   rotate_left
   · rw [if_neg U3] at H
     exact absurd H (by simp)
   rw [if_pos U3] at H
   have I4 := z1 U3
   clear U3
   have n5 := zK H
   clear H
   have g2 : 0 ≤ (z : Int) := z3
   have i2 : z < (u.length : Int) := z3
   obtain ⟨L6, V4, X4, a5, b5, d5, e5, f5, g5, j7, o0, p0, q0, s0, t0, x0, y0, X3, a4, b4, d4, e4, g4, i4, l4⟩ := at_T79 J5.out z g2 i2
   cases j7
   (try replace o0 := zX HB o0)
   (try replace p0 := zX HB p0)
   (try replace q0 := zX HB q0)
   (try replace s0 := zX HB s0)
   (try replace t0 := zX HB t0)
   (try replace x0 := zX HB x0)
   (try replace y0 := zX HB y0)
   have a6 := zK a4
   have b6 := zK X3
   clear a4 X3
   have c6 := zK d4
   have d6 := zK b4
   clear d4 b4
   have e6 := zK g4
   have f6 := zK e4
   clear g4 e4
   have g6 := zK l4
   have i6 := zK i4
   clear l4 i4
   replace g2 := eq_true g2
   replace i2 := eq_true i2
   go_upto_region 10 with (first | ((with_reducible refine gd 11 rfl ?_); refine zJ 11 #[.slice none 0 0, .slice none 0 0, .int .i64 0, .int .i64 0, .slice none 0 0, .bool false, .slice none 0 0] 79 ?_; intro N5 hg x8 hbox hb; have j0 := zK (Kd.R_below (zkR A) hb); have m0 := zK (Kd.R_below (zkR J) hb); have n0 := z7 y hb; have O0 := z8 hb; have n6 := zK (hbox); have I7 := z9 hg; have J7 := z9 hg; have L7 := zHH hg y; have M7 := zGG hg y; revert j0 m0 n0 O0 n6 I7 J7 L7 M7; clear A J y HB; intro A J y HB O X7 a8 x1 y1; clear hb hbox hg; have b8 := y1.out; have c8 := x1.out; obtain ⟨l2, m2, n2, o2, q2, s2, t2, x2, y2, B2, C2, D2, E2, F2⟩ := zc7 O))
   (try simp only [Act.put, zq1, zq2, zq3])
   go_cut [45] (fun v45 wc => ∃ (kq : Nat) (X1 : Bool), v45 = .bool X1 ∧ Aside0 (impl_Nest_lives.j2 kq L M l (rd q l) a0 T z q (q.length : Int) l u (u.length : Int) z X1 q E I u B = some r) ∧ Aside0 (kq ≤ k2) ∧ Aside0 (Kd.R Kd.bool 4 wc w.heap.size (fun _ => True) v374 L) ∧ Aside0 (Kd.R k52 52 wc w.heap.size (fun _ => True) u5 M) ∧ Aside0 (wc.heap[U1]? = some (.cells #[(.slice (some M3) q.length B0), (.slice C0 E.length D0), (.slice E0 I.length F0), (.slice (some L6) u.length G0), (.slice e0 B.length g0)] 34 (0, 0))) ∧ Aside0 (wc.heap[N5]? = some (.cells #[(.slice V4 ((rd_T79 u z).f0).length X4), (.slice a5 ((rd_T79 u z).f1).length b5), .int .i64 ((rd_T79 u z).f2.f0), .int .i64 ((rd_T79 u z).f2.f1), (.slice d5 ((rd_T79 u z).f2.f2).length e5), .bool ((rd_T79 u z).f3), (.slice f5 ((rd_T79 u z).f4).length g5)] 79 (0, 0))) ∧ Aside0 (Below w.heap.size w wc))
   case first =>
    have H := n5.out
    clear n5
    by_cases O1 : ((rd_T79 u z).f2.f0) = l
    · rw [if_pos O1] at H
      have d0 := beq_iff_eq.mpr O1
      have O3 := bne_eq_false_iff_eq.mpr O1
      clear O1
      (first | rw [d0] | (simp only [i64_w, i32_w]; rw [d0]) | skip)
      have H' := zK H
      clear H
      have d8 := y1.out
      have e8 := x1.out
      obtain ⟨G2, I2, J2, L2, M2, N2, O2, R2, T2, U2, V2, X2, a3, b3⟩ := zc7 O
      go_wp2
      go_meet
      case rel => exact ⟨_, (true), zR, H', ⟨by have := U.out; have := X.out; first | omega | exact Nat.le_refl _⟩, ⟨Kd.R_mono (zlR (Kd.R_types A.out O.out (by decide))) (fun _ hk => trivial)⟩, ⟨Kd.R_mono (zlR (Kd.R_types J.out O.out (by decide))) (fun _ hk => trivial)⟩, ⟨zV y⟩, ⟨zW O⟩, ⟨zB⟩⟩
    rw [if_neg O1] at H
    have d0 := beq_eq_false_iff_ne.mpr O1
    have O3 := bne_iff_ne.mpr O1
    (first | rw [d0] | (simp only [i64_w, i32_w]; rw [d0]) | skip)
    replace H := z6 H
    obtain ⟨o6, q6, H⟩ := H
    have N7 := zK q6
    clear q6
    have H' := zK H
    clear H
    have f8 := y1.out
    have g8 := x1.out
    obtain ⟨d3, e3, g3, i3, l3, m3, n3, o3, s3, t3, x3, y3, A3, B3⟩ := zc7 O
    go_wp2_with (first | (go_at_call 49; (with_reducible refine (impl_Kernel_loadsOf.calls k2 _ _ ((rd_T79 u z).f0) _ _ ((rd_T79 u z).f1) ((rd_T79 u z).f2.f0) ((rd_T79 u z).f2.f1) _ _ ((rd_T79 u z).f2.f2) ((rd_T79 u z).f3) _ _ ((rd_T79 u z).f4) l o6 _ ?side1 ?side2 ?side3 ?side4 ?side5 ?side6 ?side7 ?side8 N7.out).mono ?_); (case side1 => exact z4 a6.out zB); (case side2 => exact b6.out); (case side3 => exact z4 c6.out zB); (case side4 => exact d6.out); (case side5 => exact z4 e6.out zB); (case side6 => exact f6.out); (case side7 => exact z4 g6.out zB); (case side8 => exact i6.out); rintro e y8 ⟨rfl, hb⟩; have j0 := zK (Kd.R_below (Kd.R_mono (zlR (Kd.R_types A.out O.out (by decide))) (fun _ h_ => h_.1)) hb); have m0 := zK (Kd.R_below (Kd.R_mono (zlR (Kd.R_types J.out O.out (by decide))) (fun _ h_ => h_.1)) hb); have n0 := zK (zg (zV y) hb); have O0 := zK (zg (g := N5) (o := .cells #[.slice V4 ((rd_T79 u z).f0).length X4, .slice a5 ((rd_T79 u z).f1).length b5, .int .i64 ((rd_T79 u z).f2.f0), .int .i64 ((rd_T79 u z).f2.f1), .slice d5 ((rd_T79 u z).f2.f2).length e5, .bool ((rd_T79 u z).f3), .slice f5 ((rd_T79 u z).f4).length g5] 79 (0, 0)) (zW O) hb); have n6 := z8 hb; revert j0 m0 n0 O0 n6; clear A J y O HB; intro A J y O HB))
    go_meet
    case rel => exact ⟨_, (decide (o6 > 0)), zR, H', ⟨by have := U.out; have := X.out; first | omega | exact Nat.le_refl _⟩, ⟨zkR A⟩, ⟨zkR J⟩, ⟨zM y⟩, ⟨zM O⟩, ⟨zB⟩⟩
   case rest =>
    clear n5
    try clear c1
    try clear c2
    try clear p2
    try clear c3
    try clear p3
    try clear q3
    try clear m6
    try clear c4
    try clear c9
    try clear S3
    try clear D3
    try clear J3
    try clear E3
    try clear L3
    try clear V1
    try clear N3
    try clear T3
    try clear G4
    try clear U3
    try clear I4
    try clear V6
    try clear O1
    try clear d0
    try clear O3
    try clear X6
    try clear a7
    try clear b7
    try clear C1 D1 E1 F1 G1 I1 J1 L1 M1 N1
    try clear l2 m2 n2 o2 q2 s2 t2 x2 y2 B2 C2 D2 E2 F2
    try clear G2 I2 J2 L2 M2 N2 O2 R2 T2 U2 V2 X2 a3 b3
    try clear d3 e3 g3 i3 l3 m3 n3 o3 s3 t3 x3 y3 A3 B3
    try clear R0 S0 T0 U0 V0 X0 a1 b1 d1 e1
    try clear g1 i1 j1 m1 n1 o1 p1 q1 s1 t1
    try clear c0
    try clear o0
    try clear p0
    try clear q0
    try clear s0
    try clear t0
    try clear x0
    try clear y0
    try clear p2
    try clear p3
    try clear R1
    try clear g2
    try clear q3
    try clear S1
    try clear i2
    obtain ⟨kq, X1, rfl, HA, C3, A, J, y, O, HB⟩ := hcut
    cases kq with
    | zero => exact absurd HA.out (by simp [impl_Nest_lives.j2])
    | succ o5 =>
     have H := HA.out
     clear HA
     simp only [impl_Nest_lives.j2] at H
     by_cases m4 : X1 = true
     rotate_left
     · replace m4 := Bool.eq_false_iff.mpr m4
       subst m4
       rw [if_neg (show ¬ (false = true) by decide)] at H
       have H' := zK H
       clear H
       go_wp2
       go_roundg o5
       case measure => have := U.out; have := X.out; have := C3.out; omega
       case rel => exact ⟨(a0), (T), (wrap64 (z + 1)), zR, zR, zR, H', ⟨by have := U.out; have := X.out; have := C3.out; omega⟩, ⟨zkR A⟩, ⟨zkR J⟩, ⟨zM y⟩, ⟨zB⟩⟩
     subst m4
     rw [if_pos rfl] at H
     by_cases F3 : a0 < 0
     · rw [if_pos F3] at H
       have J4 := z1 F3
       clear F3
       have H' := zK H
       clear H
       go_wp2
       go_roundg o5
       case measure => have := U.out; have := X.out; have := C3.out; omega
       case rel => exact ⟨(z), (z), (wrap64 (z + 1)), zR, zR, zR, H', ⟨by have := U.out; have := X.out; have := C3.out; omega⟩, ⟨zkR A⟩, ⟨zkR J⟩, ⟨zM y⟩, ⟨zB⟩⟩
     rw [if_neg F3] at H
     have J4 := z2 F3
     clear F3
     have H' := zK H
     clear H
     go_wp2
     go_roundg o5
     case measure => have := U.out; have := X.out; have := C3.out; omega
     case rel => exact ⟨(a0), (z), (wrap64 (z + 1)), zR, zR, zR, H', ⟨by have := U.out; have := X.out; have := C3.out; omega⟩, ⟨zkR A⟩, ⟨zkR J⟩, ⟨zM y⟩, ⟨zB⟩⟩
 rw [if_neg V1] at H
 have N3 := z2 V1
 clear V1
 replace H := z6 H
 obtain ⟨i0, s6, H⟩ := H
 have R7 := zK s6
 clear s6
 have p5 := zK H
 clear H
 obtain ⟨n4, o4, p4, s4, t4, x4, y4, A4, B4, C4⟩ := zc5 y
 go_upto_region 16 with (first | ((with_reducible refine gc 50 rfl ?_); refine zF 54 Try.func50 #[.slice e0 B.length g0, .int .i64 l] rfl zL ?_; refine (slices_Contains_int_int.calls k2 _ _ B l i0 _ (zS L5) M5.out R7.out).mono ?_; rintro e w' ⟨rfl, ⟨nd, rfl⟩⟩; refine ⟨_, rfl, ?_⟩))
 (try simp only [Act.put, zq1, zq2, zq3])
 go_cut [71] (fun v71 wc => ∃ (kq : Nat) (a2 : Bool), v71 = .bool a2 ∧ Aside0 (impl_Nest_lives.j3 kq L M l (rd q l) a0 T i0 q (q.length : Int) l a2 q E I u B = some r) ∧ Aside0 (kq ≤ k2) ∧ Aside0 (Kd.R Kd.bool 4 wc w.heap.size (fun _ => True) v374 L) ∧ Aside0 (Kd.R k52 52 wc w.heap.size (fun _ => True) u5 M) ∧ Aside0 (wc.heap[U1]? = some (.cells #[(.slice (some M3) q.length B0), (.slice C0 E.length D0), (.slice E0 I.length F0), (.slice M0 u.length G0), (.slice e0 B.length g0)] 34 (0, 0))) ∧ Aside0 (Below w.heap.size w wc))
 case first =>
  have H := p5.out
  clear p5
  by_cases b2 : (rd q l) = 0
  · rw [if_pos b2] at H
    have I0 := beq_iff_eq.mpr b2
    have L4 := bne_eq_false_iff_eq.mpr b2
    clear b2
    (first | rw [I0] | (simp only [i64_w, i32_w]; rw [I0]) | skip)
    have H' := zK H
    clear H
    go_wp2
    go_meet
    case rel => exact ⟨_, (true), zR, H', ⟨by have := U.out; have := X.out; first | omega | exact Nat.le_refl _⟩, ⟨zkR A⟩, ⟨zkR J⟩, ⟨zM y⟩, ⟨zB⟩⟩
  rw [if_neg b2] at H
  have I0 := beq_eq_false_iff_ne.mpr b2
  have L4 := bne_iff_ne.mpr b2
  (first | rw [I0] | (simp only [i64_w, i32_w]; rw [I0]) | skip)
  by_cases G3 : a0 < 0
  rotate_left
  · rw [if_neg G3] at H
    have M4 := z2 G3
    clear G3
    have H' := zK H
    clear H
    go_wp2
    go_meet
    case rel => exact ⟨_, (false), zR, H', ⟨by have := U.out; have := X.out; first | omega | exact Nat.le_refl _⟩, ⟨zkR A⟩, ⟨zkR J⟩, ⟨zM y⟩, ⟨zB⟩⟩
  rw [if_pos G3] at H
  have M4 := z1 G3
  clear G3
  by_cases D4 : 0 ≤ l
  rotate_left
  · rw [if_neg D4] at H
    exact absurd H (by simp)
  rw [if_pos D4] at H
  have O5 := z1 D4
  clear D4
  by_cases E4 : l < (L.length : Int)
  rotate_left
  · rw [if_neg E4] at H
    exact absurd H (by simp)
  rw [if_pos E4] at H
  have R5 := z1 E4
  clear E4
  obtain ⟨bq36, hbq36⟩ : ∃ b_ : Bool, b_ = (rdOf false L l) := ⟨_, rfl⟩
  replace H : (if bq36 = true then (impl_Nest_lives.j3 k2 L M l (rd q l) a0 T i0 q (q.length : Int) l false q E I u B) else (impl_Nest_lives.j3 k2 L M l (rd q l) a0 T i0 q (q.length : Int) l (!i0) q E I u B)) = some r := by rw [← hbq36] at H; exact H
  have Nbq36 := zK hbq36
  clear hbq36
  by_cases F4 : bq36 = true
  · subst F4
    rw [if_pos rfl] at H
    have H' := zK H
    clear H
    obtain ⟨n8, o8, l7⟩ := Kd.R_slice A.out
    subst l7
    have J0 : 0 ≤ (l : Int) := z3
    have L0 : l < (L.length : Int) := z3
    obtain ⟨M6, q5, A0⟩ := Kd.at_bool (Kd.R_reads' A.out).2.2 l J0 L0
    (try rw [← Nbq36.out] at A0)
    cases q5
    replace J0 := eq_true J0
    replace L0 := eq_true L0
    go_wp2
    go_meet
    case rel => exact ⟨_, (false), zR, H', ⟨by have := U.out; have := X.out; first | omega | exact Nat.le_refl _⟩, ⟨zkR A⟩, ⟨zkR J⟩, ⟨zM y⟩, ⟨zB⟩⟩
  replace F4 := Bool.eq_false_iff.mpr F4
  subst F4
  rw [if_neg (show ¬ (false = true) by decide)] at H
  have H' := zK H
  clear H
  obtain ⟨p8, q8, m7⟩ := Kd.R_slice A.out
  subst m7
  have J0 : 0 ≤ (l : Int) := z3
  have L0 : l < (L.length : Int) := z3
  obtain ⟨M6, q5, A0⟩ := Kd.at_bool (Kd.R_reads' A.out).2.2 l J0 L0
  (try rw [← Nbq36.out] at A0)
  cases q5
  replace J0 := eq_true J0
  replace L0 := eq_true L0
  go_wp2
  go_meet
  case rel => exact ⟨_, (!i0), zR, H', ⟨by have := U.out; have := X.out; first | omega | exact Nat.le_refl _⟩, ⟨zkR A⟩, ⟨zkR J⟩, ⟨zM y⟩, ⟨zB⟩⟩
 case rest =>
  clear p5
  try clear c1
  try clear c2
  try clear p2
  try clear c3
  try clear p3
  try clear q3
  try clear m6
  try clear c4
  try clear c5
  try clear p6
  try clear c9
  try clear S3
  try clear D3
  try clear J3
  try clear E3
  try clear L3
  try clear V1
  try clear N3
  try clear T3
  try clear G4
  try clear U3
  try clear I4
  try clear V6
  try clear O1
  try clear d0
  try clear O3
  try clear X6
  try clear a7
  try clear b7
  try clear m4
  try clear F3
  try clear J4
  try clear b2
  try clear I0
  try clear L4
  try clear G3
  try clear M4
  try clear D4
  try clear O5
  try clear E4
  try clear R5
  try clear c7
  try clear F4
  try clear T7
  try clear d7
  try clear e7
  try clear n7
  try clear C1 D1 E1 F1 G1 I1 J1 L1 M1 N1
  try clear l2 m2 n2 o2 q2 s2 t2 x2 y2 B2 C2 D2 E2 F2
  try clear G2 I2 J2 L2 M2 N2 O2 R2 T2 U2 V2 X2 a3 b3
  try clear d3 e3 g3 i3 l3 m3 n3 o3 s3 t3 x3 y3 A3 B3
  try clear n4 o4 p4 s4 t4 x4 y4 A4 B4 C4
  try clear R0 S0 T0 U0 V0 X0 a1 b1 d1 e1
  try clear g1 i1 j1 m1 n1 o1 p1 q1 s1 t1
  try clear c0
  try clear o0
  try clear p0
  try clear q0
  try clear s0
  try clear t0
  try clear x0
  try clear y0
  try clear A0
  try clear p2
  try clear p3
  try clear R1
  try clear g2
  try clear J0
  try clear q3
  try clear S1
  try clear i2
  try clear L0
  obtain ⟨kq, a2, rfl, HA, A1, A, J, y, HB⟩ := hcut
  cases kq with
  | zero => exact absurd HA.out (by simp [impl_Nest_lives.j3])
  | succ N4 =>
   have H := HA.out
   clear HA
   simp only [impl_Nest_lives.j3] at H
   by_cases i5 : a2 = true
   · subst i5
     rw [if_pos rfl] at H
     have H' := zK H
     clear H
     go_wp2
     go_roundg N4
     case measure => have := U.out; have := X.out; have := A1.out; omega
     case rel => exact ⟨(M), (wrap64 (l + 1)), zR, H', ⟨by have := U.out; have := X.out; have := A1.out; omega⟩, ⟨zkR A⟩, ⟨zkR J⟩, ⟨zM y⟩, ⟨zB⟩⟩
   replace i5 := Bool.eq_false_iff.mpr i5
   subst i5
   rw [if_neg (show ¬ (false = true) by decide)] at H
   by_cases j5 : 0 ≤ l
   rotate_left
   · rw [if_neg j5] at H
     exact absurd H (by simp)
   rw [if_pos j5] at H
   have N6 := z1 j5
   clear j5
   by_cases l5 : l < (L.length : Int)
   rotate_left
   · rw [if_neg l5] at H
     exact absurd H (by simp)
   rw [if_pos l5] at H
   have O6 := z1 l5
   clear l5
   have s5 := zK H
   clear H
   obtain ⟨t8, o7, p7⟩ := Kd.R_slice A.out
   subst p7
   have O4 : 0 ≤ (l : Int) := z3
   have R4 : l < (L.length : Int) := z3
   obtain ⟨R6, q7, j6⟩ := Kd.at_bool (Kd.R_reads' A.out).2.2 l O4 R4
   cases q7
   replace O4 := eq_true O4
   replace R4 := eq_true R4
   go_upto_if 75 with (fail)
   go_cut [8] (fun v8 wc => ∃ (kq : Nat) (b0 : Int), v8 = .int .i64 b0 ∧ Aside0 (impl_Nest_lives.j4 kq L M l (rd q l) b0 T i0 q (q.length : Int) l q E I u B = some r) ∧ Aside0 (kq ≤ N4) ∧ Aside0 (Kd.R Kd.bool 4 wc w.heap.size (fun _ => True) (.slice (some R6) L.length o7) L) ∧ Aside0 (Kd.R k52 52 wc w.heap.size (fun _ => True) u5 M) ∧ Aside0 (wc.heap[U1]? = some (.cells #[(.slice (some M3) q.length B0), (.slice C0 E.length D0), (.slice E0 I.length F0), (.slice M0 u.length G0), (.slice e0 B.length g0)] 34 (0, 0))) ∧ Aside0 (Below w.heap.size w wc))
   case first =>
    have H := s5.out
    clear s5
    obtain ⟨bq45, hbq45⟩ : ∃ b_ : Bool, b_ = (rdOf false L l) := ⟨_, rfl⟩
    replace H : (if bq45 = true then (impl_Nest_lives.j4 N4 L M l (rd q l) 0 T i0 q (q.length : Int) l q E I u B) else (impl_Nest_lives.j4 N4 L M l (rd q l) a0 T i0 q (q.length : Int) l q E I u B)) = some r := by rw [← hbq45] at H; exact H
    have Nbq45 := zK hbq45
    clear hbq45
    (try rw [← Nbq45.out])
    by_cases m5 : bq45 = true
    · subst m5
      rw [if_pos rfl] at H
      have H' := zK H
      clear H
      go_wp2
      go_meet
      case rel => exact ⟨_, (0), zR, H', ⟨by have := U.out; have := X.out; have := A1.out; first | omega | exact Nat.le_refl _⟩, ⟨zkR A⟩, ⟨zkR J⟩, ⟨zM y⟩, ⟨zB⟩⟩
    replace m5 := Bool.eq_false_iff.mpr m5
    subst m5
    rw [if_neg (show ¬ (false = true) by decide)] at H
    have H' := zK H
    clear H
    go_wp2
    go_meet
    case rel => exact ⟨_, (a0), zR, H', ⟨by have := U.out; have := X.out; have := A1.out; first | omega | exact Nat.le_refl _⟩, ⟨zkR A⟩, ⟨zkR J⟩, ⟨zM y⟩, ⟨zB⟩⟩
   case rest =>
    clear s5
    try clear c1
    try clear c2
    try clear p2
    try clear c3
    try clear p3
    try clear q3
    try clear m6
    try clear c4
    try clear q4
    try clear c5
    try clear p6
    try clear c9
    try clear S3
    try clear D3
    try clear J3
    try clear E3
    try clear L3
    try clear V1
    try clear N3
    try clear T3
    try clear G4
    try clear U3
    try clear I4
    try clear V6
    try clear O1
    try clear d0
    try clear O3
    try clear X6
    try clear a7
    try clear b7
    try clear m4
    try clear F3
    try clear J4
    try clear b2
    try clear I0
    try clear L4
    try clear G3
    try clear M4
    try clear D4
    try clear O5
    try clear E4
    try clear R5
    try clear c7
    try clear F4
    try clear T7
    try clear d7
    try clear e7
    try clear n7
    try clear i5
    try clear j5
    try clear N6
    try clear l5
    try clear O6
    try clear A8
    try clear m5
    try clear C1 D1 E1 F1 G1 I1 J1 L1 M1 N1
    try clear l2 m2 n2 o2 q2 s2 t2 x2 y2 B2 C2 D2 E2 F2
    try clear G2 I2 J2 L2 M2 N2 O2 R2 T2 U2 V2 X2 a3 b3
    try clear d3 e3 g3 i3 l3 m3 n3 o3 s3 t3 x3 y3 A3 B3
    try clear n4 o4 p4 s4 t4 x4 y4 A4 B4 C4
    try clear R0 S0 T0 U0 V0 X0 a1 b1 d1 e1
    try clear g1 i1 j1 m1 n1 o1 p1 q1 s1 t1
    try clear c0
    try clear o0
    try clear p0
    try clear q0
    try clear s0
    try clear t0
    try clear x0
    try clear y0
    try clear A0
    try clear j6
    try clear p2
    try clear p3
    try clear d7
    try clear R1
    try clear g2
    try clear J0
    try clear O4
    try clear p6
    try clear q3
    try clear c7
    try clear e7
    try clear S1
    try clear i2
    try clear L0
    try clear R4
    obtain ⟨kq, b0, rfl, HA, S4, A, J, y, HB⟩ := hcut
    cases kq with
    | zero => exact absurd HA.out (by simp [impl_Nest_lives.j4])
    | succ B1 =>
     have H := HA.out
     clear HA
     simp only [impl_Nest_lives.j4] at H
     by_cases S5 : i0 = true
     rotate_left
     · replace S5 := Bool.eq_false_iff.mpr S5
       subst S5
       rw [if_neg (show ¬ (false = true) by decide)] at H
       obtain ⟨ji53, hji53⟩ : ∃ j_ : Int, (mx b0 0) = j_ := ⟨_, rfl⟩
       replace H : (if M.length < 4398046511104 then (impl_Nest_lives.l0 B1 L (M ++ [(⟨l, (rd q l), ji53, mx T 0⟩ : S52)]) q (q.length : Int) (wrap64 (l + 1)) q E I u B) else (none)) = some r := by first | (rw [hji53] at H; exact H) | (simp only [hji53] at H ⊢; exact H)
       have hji53_ : (if b0 < 0 then 0 else b0) = ji53 := hji53
       obtain ⟨ji54, hji54⟩ : ∃ j_ : Int, (mx T 0) = j_ := ⟨_, rfl⟩
       replace H : (if M.length < 4398046511104 then (impl_Nest_lives.l0 B1 L (M ++ [(⟨l, (rd q l), ji53, ji54⟩ : S52)]) q (q.length : Int) (wrap64 (l + 1)) q E I u B) else (none)) = some r := by first | (rw [hji54] at H; exact H) | (simp only [hji54] at H ⊢; exact H)
       have hji54_ : (if T < 0 then 0 else T) = ji54 := hji54
       by_cases T5 : M.length < 4398046511104
       rotate_left
       · rw [if_neg T5] at H
         exact absurd H (by simp)
       rw [if_pos T5] at H
       have LMc55 := zK T5
       clear T5
       obtain ⟨t6, d2⟩ : ∃ y_ : List (S52), y_ = (M ++ [(⟨l, (rd q l), ji53, ji54⟩ : S52)]) := ⟨_, rfl⟩
       replace H : (impl_Nest_lives.l0 B1 L t6 q (q.length : Int) (wrap64 (l + 1)) q E I u B) = some r := by first | (rw [d2]; with_reducible exact H) | (have N0 := (Option.bind_some _ _).symm.trans H; rw [d2]; with_reducible exact N0) | (have N0 := (Option.bind_some _ _).symm.trans H; with_reducible exact N0) | with_reducible exact H | (rw [d2]; exact H) | exact H
       have Ny390 := zK d2
       clear d2
       have H' := zK H
       clear H
       go_wp2_with (first | ((with_reducible refine gate_builtin (b := .append) (xs := #[.tmp 80, .tmp 88]) rfl ?_); at_builtin; refine Kd.R_append k52 (w0 := w) w.heap.size rfl (.tmp 80) (.tmp 88) 41 52 (.agg #[(.int .i64 0), (.int .i64 0), (.int .i64 0), (.int .i64 0)]) 32 rfl Try.underlying41 info52 rfl (by decide) (by omega) u5 M (⟨l, (rd q l), ji53, ji54⟩ : S52) [.int .i64 l, .int .i64 (rd q l), .int .i64 ji53, .int .i64 ji54] (fun _ => True) (fun _ => False) rfl rfl ?aP (fun _ hk => hk.elim) ?aF ?aO ?aB ?aS ?aL ?_; (case aP => exact k52_mkM _ _ _ (⟨l, (rd q l), ji53, ji54⟩ : S52)); (case aB => exact zB); (case aF => exact (fun _ _ => trivial)); (case aO => exact (zkR J)); (case aS => exact (zz zB)); (case aL => have := LMc55.out; omega); intro v391 B8 ho hb hg hat; rw [← Ny390.out] at ho; have j0 := zK (Kd.R_over' (zkR A) (Kd.R_typed (zkR J)) (by decide) hg); have m0 := zK (blk_grown (zM y) hg (Kd.R_ne J.out y.out (by decide))); have n0 := zK (hb); have O0 := zK (ho); revert j0 m0 n0 O0; clear A y HB J; intro A y HB S6; clear ho hb hg hat))
       go_roundg B1
       case measure => have := U.out; have := X.out; have := A1.out; have := S4.out; omega
       case rel => exact ⟨(t6), (wrap64 (l + 1)), zR, H', ⟨by have := U.out; have := X.out; have := A1.out; have := S4.out; omega⟩, ⟨zkR A⟩, ⟨zkR S6⟩, ⟨zM y⟩, ⟨zB⟩⟩
     subst S5
     rw [if_pos rfl] at H
     obtain ⟨ji48, hji48⟩ : ∃ j_ : Int, (mx b0 0) = j_ := ⟨_, rfl⟩
     replace H : (if M.length < 4398046511104 then (impl_Nest_lives.l0 B1 L (M ++ [(⟨l, (rd q l), ji48, mx (u.length : Int) 0⟩ : S52)]) q (q.length : Int) (wrap64 (l + 1)) q E I u B) else (none)) = some r := by first | (rw [hji48] at H; exact H) | (simp only [hji48] at H ⊢; exact H)
     have hji48_ : (if b0 < 0 then 0 else b0) = ji48 := hji48
     obtain ⟨ji49, hji49⟩ : ∃ j_ : Int, (mx (u.length : Int) 0) = j_ := ⟨_, rfl⟩
     replace H : (if M.length < 4398046511104 then (impl_Nest_lives.l0 B1 L (M ++ [(⟨l, (rd q l), ji48, ji49⟩ : S52)]) q (q.length : Int) (wrap64 (l + 1)) q E I u B) else (none)) = some r := by first | (rw [hji49] at H; exact H) | (simp only [hji49] at H ⊢; exact H)
     have hji49_ : (if (u.length : Int) < 0 then 0 else (u.length : Int)) = ji49 := hji49
     obtain rfl : (u.length : Int) = ji49 := by rw [← hji49_]; exact (if_neg (by omega)).symm
     by_cases U5 : M.length < 4398046511104
     rotate_left
     · rw [if_neg U5] at H
       exact absurd H (by simp)
     rw [if_pos U5] at H
     have LMc50 := zK U5
     clear U5
     obtain ⟨x6, e2⟩ : ∃ y_ : List (S52), y_ = (M ++ [(⟨l, (rd q l), ji48, (u.length : Int)⟩ : S52)]) := ⟨_, rfl⟩
     replace H : (impl_Nest_lives.l0 B1 L x6 q (q.length : Int) (wrap64 (l + 1)) q E I u B) = some r := by first | (rw [e2]; with_reducible exact H) | (have N0 := (Option.bind_some _ _).symm.trans H; rw [e2]; with_reducible exact N0) | (have N0 := (Option.bind_some _ _).symm.trans H; with_reducible exact N0) | with_reducible exact H | (rw [e2]; exact H) | exact H
     have Ny387 := zK e2
     clear e2
     have H' := zK H
     clear H
     obtain ⟨s7, t7, x7, y7, A7, B7, C7, D7, E7, F7⟩ := zc5 y
     go_wp2_with (first | ((with_reducible refine gate_builtin (b := .append) (xs := #[.tmp 80, .tmp 88]) rfl ?_); at_builtin; refine Kd.R_append k52 (w0 := w) w.heap.size rfl (.tmp 80) (.tmp 88) 41 52 (.agg #[(.int .i64 0), (.int .i64 0), (.int .i64 0), (.int .i64 0)]) 32 rfl Try.underlying41 info52 rfl (by decide) (by omega) u5 M (⟨l, (rd q l), ji48, (u.length : Int)⟩ : S52) [.int .i64 l, .int .i64 (rd q l), .int .i64 ji48, .int .i64 (u.length : Int)] (fun _ => True) (fun _ => False) rfl rfl ?aP (fun _ hk => hk.elim) ?aF ?aO ?aB ?aS ?aL ?_; (case aP => exact k52_mkM _ _ _ (⟨l, (rd q l), ji48, (u.length : Int)⟩ : S52)); (case aB => exact zB); (case aF => exact (fun _ _ => trivial)); (case aO => exact (zkR J)); (case aS => exact (zz zB)); (case aL => have := LMc50.out; omega); intro v388 C8 ho hb hg hat; rw [← Ny387.out] at ho; have j0 := zK (Kd.R_over' (zkR A) (Kd.R_typed (zkR J)) (by decide) hg); have m0 := zK (blk_grown (zM y) hg (Kd.R_ne J.out y.out (by decide))); have n0 := zK (hb); have O0 := zK (ho); revert j0 m0 n0 O0; clear A y HB J; intro A y HB T6; clear ho hb hg hat))
     go_roundg B1
     case measure => have := U.out; have := X.out; have := A1.out; have := S4.out; omega
     case rel => exact ⟨(x6), (wrap64 (l + 1)), zR, H', ⟨by have := U.out; have := X.out; have := A1.out; have := S4.out; omega⟩, ⟨zkR A⟩, ⟨zkR T6⟩, ⟨zM y⟩, ⟨zB⟩⟩
end Go.Proofs.Ytmcboiffbcnalaa.PFnExactLives
