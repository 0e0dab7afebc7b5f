-- Printed out of the translation by this session's own turned copy of a printer; Lean checks it.
import Derived.Test.YtmcboiffbcnalaaPFnExactLivesx0
import Derived.Test.YtmcboiffbcnalaaPFnExactLivesx9
namespace Go.Proofs.Ytmcboiffbcnalaa.PFnExactLives
open Go.RowKit Go.Proofs.YtmcboiffbcnalaaW.PrintWords Go.Proofs.YtmcboiffbcnalaaW.PrintLast Go.Proofs.YtmcboiffbcnalaaW.PrintMore
attribute [local go_sem] max2_int min2_int max_two min_two max_three min_three max_four min_four
set_option linter.unusedVariables false
set_option linter.unusedSimpArgs false
set_option maxHeartbeats 8000000
set_option maxRecDepth 100000
def laws_toKernel.f (k : Nat) (q : List Int) (u : List (S95)) (y : Int) (z : Int) (A : List Int) (B : Bool) (E : List (S124)) : Option (List Int × (List (S76)) × Int × Int × List Int × Bool × (List (S122))) := (laws_toIntS.f k q).bind fun I => ((laws_toAccessS.f k u).bind fun J => ((laws_toAccess.f k y z A).bind fun l => ((laws_toCalcS.f k E).bind fun L => (some (I, J, l.1, l.2.1, l.2.2, B, L)))))
theorem laws_toKernel.calls (k) (j0) (l0) (L : List Int) (m0) (n0) (M : List (S95)) (e0) (f0) (o0) (p0) (O : List Int) (X : Bool) (q0) (s0) (A : List (S124)) (r1 : List Int) (r2 : List (S76)) (r3) (r4) (r5 : List Int) (r6 : Bool) (r7 : List (S122)) (w) (O0 : Kd.C (Kd.int .i64) w j0 L.length L) (R0 : L.length ≤ l0) (S0 : Kd.C k95 w m0 M.length M) (T0 : M.length ≤ n0) (U0 : Kd.C (Kd.int .i64) w o0 O.length O) (V0 : O.length ≤ p0) (X0 : Kd.C k124 w q0 A.length A) (a1 : A.length ≤ s0) (h : laws_toKernel.f k L M e0 f0 O X A = some (r1, r2, r3, r4, r5, r6, r7)) :
 Calls Try.prog 56 #[.agg #[.slice j0 L.length l0, .slice m0 M.length n0, .int .i64 e0, .int .i64 f0, .slice o0 O.length p0, .bool X, .slice q0 A.length s0]] w fun e w' => ∃ v0_ v1_ v4_ v6_ : Value, e = .returned (.agg #[v0_, v1_, .int .i64 r3, .int .i64 r4, v4_, .bool r6, v6_]) ∧ Kd.R (Kd.int .i64) 3 w' w.heap.size (fun k_ => some k_ ≠ (v4_ : Value).ownBlock) v0_ r1 ∧ Kd.S k76 76 w' w.heap.size (fun k_ => some k_ ≠ (v0_ : Value).ownBlock ∧ some k_ ≠ (v4_ : Value).ownBlock) v1_ r2 ∧ Kd.R (Kd.int .i64) 3 w' w.heap.size (fun k_ => some k_ ≠ (v0_ : Value).ownBlock) v4_ r5 ∧ Kd.R k122 122 w' w.heap.size (fun _ => True) v6_ r7 ∧ Below w.heap.size w w' := by
 have s5 := Try.underlying98
 have t5 := Try.underlying79
 have x5 := Try.underlying95
 have y5 := Try.underlying76
 have f1 := zK O0
 have g1 := zK R0
 clear O0 R0
 have i1 := zK S0
 have j1 := zK T0
 clear S0 T0
 have l1 := zK U0
 have m1 := zK V0
 clear U0 V0
 have n1 := zK X0
 have o1 := zK a1
 clear X0 a1
 have HB := zK (Below.refl w.heap.size w)
 have H : ((laws_toIntS.f k L).bind fun T => ((laws_toAccessS.f k M).bind fun a0 => ((laws_toAccess.f k e0 f0 O).bind fun t0 => ((laws_toCalcS.f k A).bind fun g0 => (some (T, a0, t0.1, t0.2.1, t0.2.2, X, g0)))))) = some (r1, r2, r3, r4, r5, r6, r7) := h
 clear h
 replace H := z6 H
 obtain ⟨T, q1, H⟩ := H
 have A2 := zK q1
 clear q1
 replace H := z6 H
 obtain ⟨a0, s1, H⟩ := H
 have A3 := zK s1
 clear s1
 replace H := z6 H
 obtain ⟨⟨x0, y0, A0⟩, t1, H⟩ := H
 replace H : ((laws_toCalcS.f k A).bind fun g0 => (some (T, a0, x0, y0, A0, X, g0))) = some (r1, r2, r3, r4, r5, r6, r7) := H
 have A4 := zK t1
 clear t1
 replace H := z6 H
 obtain ⟨g0, x1, H⟩ := H
 have A5 := zK x1
 clear x1
 simp only [Option.some.injEq, Prod.mk.injEq] at H
 obtain ⟨rfl, rfl, rfl, rfl, rfl, rfl, rfl⟩ := H
 go_enter Try.func56, Try.ntmps56
 go_wp2_with (first | ((with_reducible refine gd 1 rfl ?_); refine zJ 1 #[.slice j0 L.length l0, .slice m0 M.length n0, .int .i64 e0, .int .i64 f0, .slice o0 O.length p0, .bool X, .slice q0 A.length s0] 98 ?_; intro e5 hg w6 hbox hb; have B := z8 hb; have E := zK (hbox); have I := z9 hg; have J := z9 hg; revert B E I J; clear HB; intro HB q f5 g5; clear hb hbox hg) | ((with_reducible refine gd 2 rfl ?_); refine zJ 2 #[.slice none 0 0, .slice none 0 0, .int .i64 0, .int .i64 0, .slice none 0 0, .bool false, .slice none 0 0] 79 ?_; intro p1 hg w7 hbox hb; have B := z7 q hb; have E := z8 hb; have I := zK (hbox); have J := z9 hg; have U := z9 hg; have b0 := zHH hg q; have i0 := zGG hg q; revert B E I J U b0 i0; clear q HB; intro q HB u i5 j5 E0 F0; clear hb hbox hg) | ((with_reducible refine gd 3 rfl ?_); refine zJ 3 #[.slice none 0 0, .slice none 0 0, .int .i64 0, .int .i64 0, .slice none 0 0, .bool false, .slice none 0 0] 79 ?_; intro B0 hg w8 hbox hb; have B := z7 q hb; have E := z7 u hb; have I := z8 hb; have J := zK (hbox); have U := z9 hg; have b0 := z9 hg; have i0 := zHH hg q; have c1 := zGG hg q; have c5 := zHH hg u; have d5 := zGG hg u; revert B E I J U b0 i0 c1 c5 d5; clear q u HB; intro q u HB l l5 m5 G0 I0 J0 L0; clear hb hbox hg; have F5 := E0.out; have G5 := F0.out; have n5 := G0.out; have o5 := I0.out; obtain ⟨F1, G1, I1, J1, L1, M1, N1, O1, R1, S1, T1, U1, V1, X1⟩ := zc7 q) | ((with_reducible refine gc 23 rfl ?_); refine zF 6 Try.func23 #[.slice j0 L.length l0] rfl zL ?_; refine (laws_toIntS.calls k _ _ L T _ (zS f1) g1.out A2.out).mono ?_; rintro e I5 ⟨v266, rfl, c0, hb⟩; refine ⟨_, rfl, ?_⟩; have B := zK (Kd.R_lower c0 (zz zB)); have E := z7 q hb; have I := z7 u hb; have J := z7 l hb; have U := z8 hb; revert B E I J U; clear q u l HB; intro y q u l HB; obtain ⟨C0, D0, y1⟩ := Kd.R_slice y.out; subst y1; have p5 := L0.out; have q5 := J0.out; obtain ⟨a2, b2, c2, d2, e2, f2, g2, i2, j2, l2, m2, n2, o2, p2⟩ := zc7 l; obtain ⟨q2, s2, t2, x2, y2, B2, C2, D2, E2, F2, G2, I2, J2, L2⟩ := zc7 q) | ((with_reducible refine gc 76 rfl ?_); refine zF 10 Try.func76 #[.slice m0 M.length n0] rfl zL ?_; refine (laws_toAccessS.calls k _ _ M a0 _ (z4 i1.out zB) j1.out A3.out).mono ?_; rintro e J5 ⟨v269, rfl, c0, hb⟩; refine ⟨_, rfl, ?_⟩; have B := zK (Kd.R_below (Kd.R_mono (zlR (Kd.R_types y.out l.out (by decide))) (fun _ h_ => h_.1)) hb); have E := zK (Kd.S_lower (Kd.S_new' c0 (Kd.R_lt (Kd.R_mono (zlR (Kd.R_types y.out l.out (by decide))) (fun _ h_ => h_.1)))) (zz zB)); have I := zK (zg (zV q) hb); have J := zK (zg (zV u) hb); have U := zK (zg (g := B0) (o := .cells #[.slice C0 T.length D0, .slice none 0 0, .int .i64 0, .int .i64 0, .slice none 0 0, .bool false, .slice none 0 0] 79 (0, 0)) (zW l) hb); have b0 := z8 hb; revert B E I J U b0; clear y q u l HB; intro y z q u l HB; obtain ⟨M0, N0, A1⟩ := Kd.S_slice z.out; subst A1; obtain ⟨M2, N2, O2, R2, T2, U2, V2, X2, a3, b3, c3, d3, e3, f3⟩ := zc7 l; obtain ⟨g3, i3, j3, l3, m3, n3, o3, p3, q3, s3, t3, x3, y3, B3⟩ := zc7 q) | ((with_reducible refine gc 77 rfl ?_); refine zF 14 Try.func77 #[.agg #[.int .i64 e0, .int .i64 f0, .slice o0 O.length p0]] rfl zL ?_; refine (laws_toAccess.calls k e0 f0 _ _ O x0 y0 A0 _ (z4 l1.out zB) m1.out A4.out).mono ?_; rintro e L5 ⟨v274, rfl, c0, hb⟩; refine ⟨_, rfl, ?_⟩; have B := zK (Kd.R_elder' (Kd.R_mono (zlR (Kd.R_types y.out l.out (by decide))) (fun _ h_ => h_.1)) (Kd.R_base c0) hb); have E := zK (Kd.S_elder' (Kd.S_mono (zlS (Kd.S_types z.out l.out (by decide))) (fun _ h_ => h_.1)) (Kd.R_base c0) hb); have I := zK (Kd.R_lower (Kd.R_new' c0 (Kd.R_lt (Kd.R_mono (zlR (Kd.R_types y.out l.out (by decide))) (fun _ h_ => h_.1)))) (zz zB)); have J := zK (zg (zV q) hb); have U := zK (zg (zV u) hb); have b0 := zK (zg (g := B0) (o := .cells #[.slice C0 T.length D0, .slice M0 a0.length N0, .int .i64 0, .int .i64 0, .slice none 0 0, .bool false, .slice none 0 0] 79 (0, 0)) (zW l) hb); have i0 := z8 hb; revert B E I J U b0 i0; clear y z q u l HB; intro y z d0 q u l HB; obtain ⟨C3, D3, E3, F3, G3, I3, J3, L3, M3, N3, O3, R3, S3, T3⟩ := zc7 l; obtain ⟨d1, e1, B1⟩ := Kd.R_slice d0.out; subst B1; obtain ⟨U3, V3, X3, a4, b4, c4, d4, e4, f4, g4, i4, j4, l4, m4⟩ := zc7 q) | ((with_reducible refine gc 78 rfl ?_); refine zF 21 Try.func78 #[.slice q0 A.length s0] rfl zL ?_; refine (laws_toCalcS.calls k _ _ A g0 _ (z4 n1.out zB) o1.out A5.out).mono ?_; rintro e M5 ⟨v277, rfl, c0, hb⟩; refine ⟨_, rfl, ?_⟩; have B := zK (Kd.R_below (Kd.R_mono (zlR (Kd.R_types y.out l.out (by decide))) (fun _ h_ => h_.1)) hb); have E := zK (Kd.S_below (Kd.S_mono (zlS (Kd.S_types z.out l.out (by decide))) (fun _ h_ => h_.1)) hb); have I := zK (Kd.R_below (Kd.R_mono (zlR (Kd.R_types d0.out l.out (by decide))) (fun _ h_ => h_.1)) hb); have J := zK (Kd.R_lower c0 (zz zB)); have U := zK (zg (zV q) hb); have b0 := zK (zg (zV u) hb); have i0 := zK (zg (g := B0) (o := .cells #[.slice C0 T.length D0, .slice M0 a0.length N0, .int .i64 x0, .int .i64 y0, .slice d1 A0.length e1, .bool X, .slice none 0 0] 79 (0, 0)) (zW l) hb); have c1 := z8 hb; revert B E I J U b0 i0 c1; clear y z d0 q u l HB; intro y z d0 b1 q u l HB; obtain ⟨C1, D1, E1⟩ := Kd.R_slice b1.out; subst E1; obtain ⟨n4, o4, p4, q4, s4, t4, x4, y4, B4, C4, D4, E4, F4, G4⟩ := zc7 l; obtain ⟨I4, J4, L4, M4, N4, O4, R4, S4, T4, U4, V4, X4, a5, b5⟩ := zc7 u))
 refine bodyPost_ret (results_cell_row rfl _ _ p1 79 #[.slice C0 T.length D0, .slice M0 a0.length N0, .int .i64 x0, .int .i64 y0, .slice d1 A0.length e1, .bool X, .slice C1 g0.length D1] (0, 0) _ rfl (zW u) Try.underlying79 rfl (by kernel_rfl)) rfl ?_
 exact ⟨_, _, _, _, zE, Kd.R_mono (zlR (Kd.R_types (Kd.R_types y.out l.out (by decide)) u.out (by decide))) (fun _ hk => hk.1.1.2), Kd.S_mono (zlS (Kd.S_types (Kd.S_types z.out l.out (by decide)) u.out (by decide))) (fun _ hk => ⟨hk.1.1.1.2, hk.1.1.2⟩), Kd.R_mono (zlR (Kd.R_types (Kd.R_types d0.out l.out (by decide)) u.out (by decide))) (fun _ hk => hk.1.1.2), Kd.R_mono (zlR (Kd.R_types (Kd.R_types b1.out l.out (by decide)) u.out (by decide))) (fun _ hk => trivial), zB⟩
def laws_toKernelS.l0 : Nat → List (S98) → List (S79) → Int → Option ((List (S79)))
 | 0, _, _, _ => none
 | k + 1, u, y, q => if q < (u.length : Int) then (if 0 ≤ q then ((laws_toKernel.f k ((rd_T98 u q).f0) ((rd_T98 u q).f1) ((rd_T98 u q).f2.f0) ((rd_T98 u q).f2.f1) ((rd_T98 u q).f2.f2) ((rd_T98 u q).f3) ((rd_T98 u q).f4)).bind fun l => (if q < (y.length : Int) then (laws_toKernelS.l0 k u (y.set (q : Int).toNat (⟨l.1, l.2.1, (⟨l.2.2.1, l.2.2.2.1, l.2.2.2.2.1⟩ : S76), l.2.2.2.2.2.1, l.2.2.2.2.2.2⟩ : S79)) (wrap64 (q + 1))) else (none))) else (none)) else (some y)
def laws_toKernelS.f (k : Nat) (l : List (S98)) : Option ((List (S79))) := if 0 ≤ (l.length : Int) then (if ((l.length : Int) : Int).toNat ≤ 2345624805922 then (laws_toKernelS.l0 k l (List.replicate ((l.length : Int) : Int).toNat z79) 0) else (none)) else (none)
theorem laws_toKernelS.calls (k) (A0) (c0) (u : List (S98)) (r : List (S79)) (w) (U1 : Kd.C k98 w A0 u.length u) (V1 : u.length ≤ c0) (h : laws_toKernelS.f k u = some r) :
 Calls Try.prog 31 #[.slice A0 u.length c0] w fun e w' => ∃ v0_ : Value, e = .returned (v0_) ∧ Kd.R k79 79 w' w.heap.size (fun _ => True) v0_ r ∧ Below w.heap.size w w' := by
 have T2 := Try.underlying98
 have U2 := Try.underlying79
 have B2 := zK U1
 have b3 := zK V1
 clear U1 V1
 have HB := zK (Below.refl w.heap.size w)
 have H : (if 0 ≤ (u.length : Int) then (if ((u.length : Int) : Int).toNat ≤ 2345624805922 then (laws_toKernelS.l0 k u (List.replicate ((u.length : Int) : Int).toNat z79) 0) else (none)) else (none)) = some r := h
 clear h
 by_cases c2 : 0 ≤ (u.length : Int)
 rotate_left
 · rw [if_neg c2] at H
   exact absurd H (by simp)
 rw [if_pos c2] at H
 have i2 := eq_true c2
 have j2 := z1 c2
 clear c2
 by_cases c3 : ((u.length : Int) : Int).toNat ≤ 2345624805922
 rotate_left
 · rw [if_neg c3] at H
   exact absurd H (by simp)
 rw [if_pos c3] at H
 have l2 := eq_true c3
 have m2 := z1 c3
 clear c3
 obtain ⟨m1, O⟩ : ∃ y_ : List (S79), y_ = (List.replicate ((u.length : Int) : Int).toNat z79) := ⟨_, rfl⟩
 replace H : (laws_toKernelS.l0 k u m1 0) = some r := by first | (rw [O]; with_reducible exact H) | (have U := (Option.bind_some _ _).symm.trans H; rw [O]; with_reducible exact U) | (have U := (Option.bind_some _ _).symm.trans H; with_reducible exact U) | with_reducible exact H | (rw [O]; exact H) | exact H
 have Ny279 := zK O
 clear O
 have H' := zK H
 clear H
 go_enter Try.func31, Try.ntmps31
 go_wp2_with (first | ((with_reducible refine gd 7 rfl ?_); refine Kd.R_make k79 _ 79 rfl (N := 7) rfl 32 _ _ rfl (u.length : Int) rfl rfl Try.underlying32 (.agg #[(.slice none 0 0), (.slice none 0 0), (.int .i64 0), (.int .i64 0), (.slice none 0 0), (.bool false), (.slice none 0 0)]) 120 info79 rfl (by decide) (by omega) z79 (ok := fun _ => True) (okp := fun _ => True) (k79_mkM _ _ _ z79 (Kd.R_nil _ _ _ _ _) (Kd.R_nil _ _ _ _ _) (Kd.R_nil _ _ _ _ _) (Kd.R_nil _ _ _ _ _)) (fun _ hk => hk) trivial (z3) (Nat.le_trans (Nat.mul_le_mul_right _ (z3 : (u.length : Int).toNat ≤ 2345624805922)) (by omega)) (Below.refl _ _) (Nat.le_refl _) ?_; intro v280 w4 D0 hb hg_ hnew_; clear hg_ hnew_; (first | rw [← Ny279.out] at D0 | (simp only [Int.reduceToNat] at D0; rw [← Ny279.out] at D0)); have E0 := zK (Kd.R_lower D0 (zz zB)); have F0 := z8 hb; revert E0 F0; clear HB; intro R1 HB; clear hb D0))
 go_loopg [4] k (fun kq v4 w' => ∃ (y : List (S79)) (l : Int), v4 = .int .i64 l ∧ Aside0 (laws_toKernelS.l0 kq u y l = some r) ∧ Aside0 (kq ≤ k) ∧ Aside0 (Kd.R k79 79 w' w.heap.size (fun _ => True) v280 y) ∧ Aside0 (Below w.heap.size w w'))
 case atStart => exact ⟨(m1), (0), zR, H', ⟨Nat.le_refl _⟩, ⟨zkR R1⟩, ⟨zB⟩⟩
 clear H'
 try clear c2
 try clear i2
 try clear j2
 try clear p2
 try clear c3
 try clear l2
 try clear m2
 obtain ⟨y, l, rfl, HA, X1, q, HB⟩ := hrel
 rcases gk with _ | k1
 · exact absurd HA.out (by simp [laws_toKernelS.l0])
 have H := HA.out
 clear HA
 simp only [laws_toKernelS.l0] at H
 by_cases c6 : l < (u.length : Int)
 rotate_left
 · rw [if_neg c6] at H
   have n2 := z2 c6
   clear c6
   obtain rfl := z5 H
   go_wp2
   go_ret
   exact ⟨_, zE, zkR q, zB⟩
 rw [if_pos c6] at H
 have n2 := z1 c6
 clear c6
 by_cases c7 : 0 ≤ l
 rotate_left
 · rw [if_neg c7] at H
   exact absurd H (by simp)
 rw [if_pos c7] at H
 have V2 := z1 c7
 clear c7
 replace H := z6 H
 obtain ⟨⟨A, B, J, L, E, M, I⟩, a2, H⟩ := H
 replace H : (if l < (y.length : Int) then (laws_toKernelS.l0 k1 u (y.set (l : Int).toNat (⟨A, B, (⟨J, L, E⟩ : S76), M, I⟩ : S79)) (wrap64 (l + 1))) else (none)) = some r := H
 have A8 := zK a2
 clear a2
 by_cases c9 : l < (y.length : Int)
 rotate_left
 · rw [if_neg c9] at H
   exact absurd H (by simp)
 rw [if_pos c9] at H
 have a3 := z1 c9
 clear c9
 obtain ⟨G0, T⟩ : ∃ y_ : List (S79), y_ = (y.set (l : Int).toNat (⟨A, B, (⟨J, L, E⟩ : S76), M, I⟩ : S79)) := ⟨_, rfl⟩
 replace H : (laws_toKernelS.l0 k1 u G0 (wrap64 (l + 1))) = some r := by first | (rw [T]; with_reducible exact H) | (have U := (Option.bind_some _ _).symm.trans H; rw [T]; with_reducible exact U) | (have U := (Option.bind_some _ _).symm.trans H; with_reducible exact U) | with_reducible exact H | (rw [T]; exact H) | exact H
 have Ny298 := zK T
 clear T
 have H' := zK H
 clear H
 have I0 : 0 ≤ (l : Int) := z3
 have J0 : l < (u.length : Int) := z3
 obtain ⟨R2, n1, o1, p1, q1, s1, t1, x1, y1, o2, X, a0, b0, d0, e0, g0, i0, j0, m0, n0, o0, p0, q0, s0, t0⟩ := at_T98 B2.out l I0 J0
 cases o2
 (try replace X := zX HB X)
 (try replace a0 := zX HB a0)
 (try replace b0 := zX HB b0)
 (try replace d0 := zX HB d0)
 (try replace e0 := zX HB e0)
 (try replace g0 := zX HB g0)
 (try replace i0 := zX HB i0)
 have b1 := zK m0
 have c1 := zK j0
 clear m0 j0
 have d1 := zK o0
 have e1 := zK n0
 clear o0 n0
 have g1 := zK q0
 have i1 := zK p0
 clear q0 p0
 have j1 := zK t0
 have l1 := zK s0
 clear t0 s0
 replace I0 := eq_true I0
 replace J0 := eq_true J0
 go_wp2_with (first | ((with_reducible refine gc 56 rfl ?_); refine zF 20 Try.func56 #[.agg #[.slice n1 ((rd_T98 u l).f0).length o1, .slice p1 ((rd_T98 u l).f1).length q1, .int .i64 ((rd_T98 u l).f2.f0), .int .i64 ((rd_T98 u l).f2.f1), .slice s1 ((rd_T98 u l).f2.f2).length t1, .bool ((rd_T98 u l).f3), .slice x1 ((rd_T98 u l).f4).length y1]] rfl zL ?_; refine (laws_toKernel.calls k1 _ _ ((rd_T98 u l).f0) _ _ ((rd_T98 u l).f1) ((rd_T98 u l).f2.f0) ((rd_T98 u l).f2.f1) _ _ ((rd_T98 u l).f2.f2) ((rd_T98 u l).f3) _ _ ((rd_T98 u l).f4) A B J L E M I _ (zS b1) c1.out (zS d1) e1.out (zS g1) i1.out (zS j1) l1.out A8.out).mono ?_; rintro e z ⟨v284, v287, v292, v296, rfl, b2, d2, e2, g2, hb⟩; refine ⟨_, rfl, ?_⟩; have E0 := zK (Kd.R_mono (Kd.R_told (Kd.R_told (Kd.R_told (Kd.R_told (Kd.R_old (zkR q) hb) (Kd.R_base b2)) (Kd.S_base d2)) (Kd.R_base e2)) (Kd.R_base g2)) (fun _ h_ => h_.1)); have F0 := zK (Kd.R_lower b2 (zz zB)); have C2 := zK (Kd.S_lower d2 (zz zB)); have D2 := zK (Kd.R_lower e2 (zz zB)); have E2 := zK (Kd.R_lower g2 (zz zB)); have F2 := z8 hb; revert E0 F0 C2 D2 E2 F2; clear q HB; intro q x0 y0 B0 C0 HB; have A1 : 0 ≤ (l : Int) := z3; have B1 : (l : Int) < ((y.length : Int) : Int) := z3; obtain ⟨go10, C1, D1, E1, gl10, cl10, HG10⟩ := Kd.R_form q.out (by omega); (first | cases D1 | (injection D1 with ea_ en_ ec_; (first | subst ea_ | (injection ea_ with ea_; subst ea_)); subst ec_; clear en_)); have GB10 := zK E1; have GG10 := zK HG10; clear E1 gl10 HG10; obtain ⟨ce10, hcl10, hM10, hcc10, hfr10⟩ := Kd.R_elem q.out z79 (l : Int) A1 B1; obtain ⟨ve10_0, ve10_1, ve10_4, ve10_6, rfl, ge10_0, ge10_1, ge10_4, ge10_6⟩ := k79_openM hM10; have G2 : z.cell? ⟨go10, (l : Int).toNat * 7, none⟩ = some (ve10_0) := hcc10 0 _ rfl; have I2 : z.cell? ⟨go10, (l : Int).toNat * 7 + 1, none⟩ = some (ve10_1) := hcc10 1 _ rfl; have J2 : z.cell? ⟨go10, (l : Int).toNat * 7 + 2, none⟩ = some (.int .i64 ((rd_T79 y l).f2.f0)) := hcc10 2 _ rfl; have L2 : z.cell? ⟨go10, (l : Int).toNat * 7 + 3, none⟩ = some (.int .i64 ((rd_T79 y l).f2.f1)) := hcc10 3 _ rfl; have M2 : z.cell? ⟨go10, (l : Int).toNat * 7 + 4, none⟩ = some (ve10_4) := hcc10 4 _ rfl; have N2 : z.cell? ⟨go10, (l : Int).toNat * 7 + 5, none⟩ = some (.bool ((rd_T79 y l).f3)) := hcc10 5 _ rfl; have O2 : z.cell? ⟨go10, (l : Int).toNat * 7 + 6, none⟩ = some (ve10_6) := hcc10 6 _ rfl; have hf10_0 : z.frozen? ⟨go10, (l : Int).toNat * 7, none⟩ = false := hfr10 0; have hf10_1 : z.frozen? ⟨go10, (l : Int).toNat * 7 + 1, none⟩ = false := hfr10 1; have hf10_2 : z.frozen? ⟨go10, (l : Int).toNat * 7 + 2, none⟩ = false := hfr10 2; have hf10_3 : z.frozen? ⟨go10, (l : Int).toNat * 7 + 3, none⟩ = false := hfr10 3; have hf10_4 : z.frozen? ⟨go10, (l : Int).toNat * 7 + 4, none⟩ = false := hfr10 4; have hf10_5 : z.frozen? ⟨go10, (l : Int).toNat * 7 + 5, none⟩ = false := hfr10 5; have hf10_6 : z.frozen? ⟨go10, (l : Int).toNat * 7 + 6, none⟩ = false := hfr10 6; clear hcl10 hcc10 hfr10 hM10; replace A1 := eq_true A1; replace B1 := eq_true B1; obtain ⟨L0, M0, q2⟩ := Kd.R_slice C0.out; subst q2; obtain ⟨N0, O0, s2⟩ := Kd.R_slice B0.out; subst s2; obtain ⟨R0, S0, t2⟩ := Kd.S_slice y0.out; subst t2; obtain ⟨T0, U0, x2⟩ := Kd.R_slice x0.out; subst x2; have n_ := zK (Kd.R_mono (ok' := (fun k_ => some k_ ≠ (.slice T0 A.length U0 : Value).ownBlock ∧ some k_ ≠ (.slice R0 B.length S0 : Value).ownBlock ∧ some k_ ≠ (.slice N0 E.length O0 : Value).ownBlock ∧ some k_ ≠ (.slice L0 I.length M0 : Value).ownBlock)) q.out (fun k_ hk => ⟨hk.1.1.1.2, ⟨hk.1.1.2, ⟨hk.1.2, hk.2⟩⟩⟩)); clear q; have q := n_; clear n_; have HX16 := zK (show Kd.R k79 79 z w.heap.size (fun _ => True) (.slice (some ⟨go10, 0, none⟩) y.length C1) y from (Kd.R_mono (zlR q.out) (fun _ hk => trivial))); obtain ⟨ce16, hcl16, hM16, hcc16, hfr16⟩ := Kd.R_elem HX16.out z79 (l : Int) (z3) (by have h_ : (l : Int) < ((y.length : Int) : Int) := z3; first | exact h_ | (have e_ := (Kd.R_reads' q.out).1; omega) | simpa using h_); obtain ⟨ve16_0, ve16_1, ve16_4, ve16_6, rfl, ge16_0, ge16_1, ge16_4, ge16_6⟩ := k79_openM hM16; have HP16 := Kd.R_seg HX16.out (l : Int) (z3) (by have h_ : (l : Int) < ((y.length : Int) : Int) := z3; first | exact h_ | (have e_ := (Kd.R_reads' q.out).1; omega) | simpa using h_) (seg := [.slice T0 A.length U0, .slice R0 B.length S0, .int .i64 J, .int .i64 L, .slice N0 E.length O0, .bool M, .slice L0 I.length M0]) (j := 0) hcl16 hcc16 (show 7 ≤ 7 from by decide) (x' := (⟨A, B, (⟨J, L, E⟩ : S76), M, I⟩ : S79)) (k79_mkM _ _ _ (⟨A, B, (⟨J, L, E⟩ : S76), M, I⟩ : S79) (Kd.R_mono (Kd.R_apart' (x0.out) (Kd.R_typed q.out) (by decide)) (fun k_ hk => ⟨trivial, fun e_ => (hk.2) (by rw [e_]; rfl)⟩)) (Kd.R_mono (Kd.R_apart' ((Kd.S_R y0.out)) (Kd.R_typed q.out) (by decide)) (fun k_ hk => ⟨trivial, fun e_ => (hk.2) (by rw [e_]; rfl)⟩)) (Kd.R_mono (Kd.R_apart' (B0.out) (Kd.R_typed q.out) (by decide)) (fun k_ hk => ⟨trivial, fun e_ => (hk.2) (by rw [e_]; rfl)⟩)) (Kd.R_mono (Kd.R_apart' (C0.out) (Kd.R_typed q.out) (by decide)) (fun k_ hk => ⟨trivial, fun e_ => (hk.2) (by rw [e_]; rfl)⟩))) (fun _ hk => hk); have F1 := hcc16 0 _ rfl; (try simp only [show (k79).sz = 7 from rfl, Nat.mul_one, Nat.add_zero] at F1); have hf16_0 := hfr16 0; (try simp only [show (k79).sz = 7 from rfl, Nat.mul_one, Nat.add_zero] at hf16_0); have G1 := hcc16 1 _ rfl; (try simp only [show (k79).sz = 7 from rfl, Nat.mul_one, Nat.add_zero] at G1); have hf16_1 := hfr16 1; (try simp only [show (k79).sz = 7 from rfl, Nat.mul_one, Nat.add_zero] at hf16_1); have I1 := hcc16 2 _ rfl; (try simp only [show (k79).sz = 7 from rfl, Nat.mul_one, Nat.add_zero] at I1); have hf16_2 := hfr16 2; (try simp only [show (k79).sz = 7 from rfl, Nat.mul_one, Nat.add_zero] at hf16_2); have J1 := hcc16 3 _ rfl; (try simp only [show (k79).sz = 7 from rfl, Nat.mul_one, Nat.add_zero] at J1); have hf16_3 := hfr16 3; (try simp only [show (k79).sz = 7 from rfl, Nat.mul_one, Nat.add_zero] at hf16_3); have L1 := hcc16 4 _ rfl; (try simp only [show (k79).sz = 7 from rfl, Nat.mul_one, Nat.add_zero] at L1); have hf16_4 := hfr16 4; (try simp only [show (k79).sz = 7 from rfl, Nat.mul_one, Nat.add_zero] at hf16_4); have M1 := hcc16 5 _ rfl; (try simp only [show (k79).sz = 7 from rfl, Nat.mul_one, Nat.add_zero] at M1); have hf16_5 := hfr16 5; (try simp only [show (k79).sz = 7 from rfl, Nat.mul_one, Nat.add_zero] at hf16_5); have N1 := hcc16 6 _ rfl; (try simp only [show (k79).sz = 7 from rfl, Nat.mul_one, Nat.add_zero] at N1); have hf16_6 := hfr16 6; (try simp only [show (k79).sz = 7 from rfl, Nat.mul_one, Nat.add_zero] at hf16_6); clear hcl16 hcc16 hfr16 hM16) | ((with_reducible refine gate_store (t := 79) (p := 21) rfl ?_); refine store_event (t := 79) (p := 21) (v := ?vo_w17) (w1 := (((((((z.setCell ⟨go10, (l : Int).toNat * 7, none⟩ (.slice T0 A.length U0)).setCell ⟨go10, (l : Int).toNat * 7 + 1, none⟩ (.slice R0 B.length S0)).setCell ⟨go10, (l : Int).toNat * 7 + 2, none⟩ (.int .i64 J)).setCell ⟨go10, (l : Int).toNat * 7 + 3, none⟩ (.int .i64 L)).setCell ⟨go10, (l : Int).toNat * 7 + 4, none⟩ (.slice N0 E.length O0)).setCell ⟨go10, (l : Int).toNat * 7 + 5, none⟩ (.bool M)).setCell ⟨go10, (l : Int).toNat * 7 + 6, none⟩ (.slice L0 I.length M0))) ?hg ?ho ?hn ?hr ?_; (case ho => rfl); (case hg => rfl); (case hn => rfl); (case hr => first | (go_simp; done) | (go_simp; rfl)); intro O1 hw; have hg : z.grownBy O1 (some go10) := (by rw [hw]; exact HP16.2); have hp_ : Kd.R k79 79 O1 w.heap.size (fun _ => True) (.slice (some ⟨go10, 0, none⟩) y.length C1) G0 := (by rw [hw, Ny298.out]; exact HP16.1); clear HP16; have E0 := zK (hp_); have F0 := zK ((by rw [hw]; exact zs (zs (zs (zs (zs (zs (zs (HB.out) GB10.out) GB10.out) GB10.out) GB10.out) GB10.out) GB10.out) GB10.out : Below w.heap.size w O1)); revert E0 F0; clear q HB x0 y0 B0 C0; intro q HB; clear hg hw hp_))
 go_roundg k1
 case measure => have := X1.out; omega
 case rel => exact ⟨(G0), (wrap64 (l + 1)), zR, H', ⟨by have := X1.out; omega⟩, ⟨zkR q⟩, ⟨zB⟩⟩
def laws_toNest.f (k : Nat) (l : List Int) (q : List Int) (u : List (S92)) (y : List (S98)) (z : List Int) : Option (List Int × List Int × (List (S71)) × (List (S79)) × List Int) := (laws_toIntS.f k l).bind fun A => ((laws_toIntS.f k q).bind fun B => ((laws_toFixS.f k u).bind fun E => ((laws_toKernelS.f k y).bind fun I => ((laws_toIntS.f k z).bind fun J => (some (A, B, E, I, J))))))
theorem laws_toNest.calls (k) (n0) (o0) (O : List Int) (p0) (q0) (T : List Int) (s0) (t0) (U : List (S92)) (x0) (y0) (X : List (S98)) (A0) (B0) (a0 : List Int) (r1 : List Int) (r2 : List Int) (r3 : List (S71)) (r4 : List (S79)) (r5 : List Int) (w) (S0 : Kd.C (Kd.int .i64) w n0 O.length O) (T0 : O.length ≤ o0) (U0 : Kd.C (Kd.int .i64) w p0 T.length T) (V0 : T.length ≤ q0) (X0 : Kd.C k92 w s0 U.length U) (a1 : U.length ≤ t0) (b1 : Kd.C k98 w x0 X.length X) (c1 : X.length ≤ y0) (d1 : Kd.C (Kd.int .i64) w A0 a0.length a0) (e1 : a0.length ≤ B0) (h : laws_toNest.f k O T U X a0 = some (r1, r2, r3, r4, r5)) :
 Calls Try.prog 12 #[.agg #[.slice n0 O.length o0, .slice p0 T.length q0, .slice s0 U.length t0, .slice x0 X.length y0, .slice A0 a0.length B0]] w fun e w' => ∃ v0_ v1_ v2_ v3_ v4_ : Value, e = .returned (.agg #[v0_, v1_, v2_, v3_, v4_]) ∧ Kd.R (Kd.int .i64) 3 w' w.heap.size (fun k_ => some k_ ≠ (v1_ : Value).ownBlock ∧ some k_ ≠ (v4_ : Value).ownBlock) v0_ r1 ∧ Kd.R (Kd.int .i64) 3 w' w.heap.size (fun k_ => some k_ ≠ (v0_ : Value).ownBlock ∧ some k_ ≠ (v4_ : Value).ownBlock) v1_ r2 ∧ Kd.S k71 71 w' w.heap.size (fun k_ => some k_ ≠ (v0_ : Value).ownBlock ∧ some k_ ≠ (v1_ : Value).ownBlock ∧ some k_ ≠ (v4_ : Value).ownBlock) v2_ r3 ∧ Kd.R k79 79 w' w.heap.size (fun k_ => some k_ ≠ (v0_ : Value).ownBlock ∧ some k_ ≠ (v1_ : Value).ownBlock ∧ some k_ ≠ (v4_ : Value).ownBlock) v3_ r4 ∧ Kd.R (Kd.int .i64) 3 w' w.heap.size (fun k_ => some k_ ≠ (v0_ : Value).ownBlock ∧ some k_ ≠ (v1_ : Value).ownBlock) v4_ r5 ∧ Below w.heap.size w w' := by
 have j5 := Try.underlying26
 have l5 := Try.underlying34
 have l1 := zK S0
 have m1 := zK T0
 clear S0 T0
 have n1 := zK U0
 have o1 := zK V0
 clear U0 V0
 have p1 := zK X0
 have q1 := zK a1
 clear X0 a1
 have s1 := zK b1
 have t1 := zK c1
 clear b1 c1
 have x1 := zK d1
 have y1 := zK e1
 clear d1 e1
 have HB := zK (Below.refl w.heap.size w)
 have H : ((laws_toIntS.f k O).bind fun b0 => ((laws_toIntS.f k T).bind fun d0 => ((laws_toFixS.f k U).bind fun g0 => ((laws_toKernelS.f k X).bind fun j0 => ((laws_toIntS.f k a0).bind fun C0 => (some (b0, d0, g0, j0, C0))))))) = some (r1, r2, r3, r4, r5) := h
 clear h
 replace H := z6 H
 obtain ⟨b0, B1, H⟩ := H
 have A2 := zK B1
 clear B1
 replace H := z6 H
 obtain ⟨d0, C1, H⟩ := H
 have A3 := zK C1
 clear C1
 replace H := z6 H
 obtain ⟨g0, D1, H⟩ := H
 have A4 := zK D1
 clear D1
 replace H := z6 H
 obtain ⟨j0, E1, H⟩ := H
 have A5 := zK E1
 clear E1
 replace H := z6 H
 obtain ⟨C0, F1, H⟩ := H
 have A6 := zK F1
 clear F1
 simp only [Option.some.injEq, Prod.mk.injEq] at H
 obtain ⟨rfl, rfl, rfl, rfl, rfl⟩ := H
 go_enter Try.func12, Try.ntmps12
 go_wp2_with (first | ((with_reducible refine gd 1 rfl ?_); refine zJ 1 #[.slice n0 O.length o0, .slice p0 T.length q0, .slice s0 U.length t0, .slice x0 X.length y0, .slice A0 a0.length B0] 26 ?_; intro S4 hg w7 hbox hb; have A := z8 hb; have B := zK (hbox); have E := z9 hg; have I := z9 hg; revert A B E I; clear HB; intro HB q T4 U4; clear hb hbox hg) | ((with_reducible refine gd 2 rfl ?_); refine zJ 2 #[.slice none 0 0, .slice none 0 0, .slice none 0 0, .slice none 0 0, .slice none 0 0] 34 ?_; intro A1 hg w8 hbox hb; have A := z7 q hb; have B := z8 hb; have E := zK (hbox); have I := z9 hg; have M := z9 hg; have c0 := zHH hg q; have e0 := zGG hg q; revert A B E I M c0 e0; clear q HB; intro q HB u V4 X4 F0 G0; clear hb hbox hg) | ((with_reducible refine gd 3 rfl ?_); refine zJ 3 #[.slice none 0 0, .slice none 0 0, .slice none 0 0, .slice none 0 0, .slice none 0 0] 34 ?_; intro i0 hg w9 hbox hb; have A := z7 q hb; have B := z7 u hb; have E := z8 hb; have I := zK (hbox); have M := z9 hg; have c0 := z9 hg; have e0 := zHH hg q; have I0 := zGG hg q; have g1 := zHH hg u; have R4 := zGG hg u; revert A B E I M c0 e0 I0 g1 R4; clear q u HB; intro q u HB l a5 b5 J0 L0 M0 N0; clear hb hbox hg; have c5 := F0.out; have d5 := G0.out; have e5 := J0.out; have f5 := L0.out; obtain ⟨R1, S1, T1, U1, V1, X1, a2, b2, c2, d2⟩ := zc5 q) | ((with_reducible refine gc 23 rfl ?_); refine zF 6 Try.func23 #[.slice n0 O.length o0] rfl zL ?_; refine (laws_toIntS.calls k _ _ O b0 _ (zS l1) m1.out A2.out).mono ?_; rintro e s5 ⟨v303, rfl, J, hb⟩; refine ⟨_, rfl, ?_⟩; have A := zK (Kd.R_lower J (zz zB)); have B := z7 q hb; have E := z7 u hb; have I := z7 l hb; have M := z8 hb; revert A B E I M; clear q u l HB; intro y q u l HB; obtain ⟨l0, m0, G1⟩ := Kd.R_slice y.out; subst G1; have g5 := N0.out; have i5 := M0.out; obtain ⟨e2, f2, g2, i2, j2, l2, m2, n2, o2, p2⟩ := zc5 l; obtain ⟨q2, s2, t2, x2, y2, B2, C2, D2, E2, F2⟩ := zc5 q) | ((with_reducible refine gc 23 rfl ?_); refine zF 10 Try.func23 #[.slice p0 T.length q0] rfl zL ?_; refine (laws_toIntS.calls k _ _ T d0 _ (z4 n1.out zB) o1.out A3.out).mono ?_; rintro e t5 ⟨v306, rfl, J, hb⟩; refine ⟨_, rfl, ?_⟩; have A := zK (Kd.R_elder' (Kd.R_mono (zlR (Kd.R_types y.out l.out (by decide))) (fun _ h_ => h_.1)) (Kd.R_base J) hb); have B := zK (Kd.R_lower (Kd.R_new' J (Kd.R_lt (Kd.R_mono (zlR (Kd.R_types y.out l.out (by decide))) (fun _ h_ => h_.1)))) (zz zB)); have E := zK (zg (zV q) hb); have I := zK (zg (zV u) hb); have M := zK (zg (g := i0) (o := .cells #[.slice l0 b0.length m0, .slice none 0 0, .slice none 0 0, .slice none 0 0, .slice none 0 0] 34 (0, 0)) (zW l) hb); have c0 := z8 hb; revert A B E I M c0; clear y q u l HB; intro y z q u l HB; obtain ⟨D0, E0, I1⟩ := Kd.R_slice z.out; subst I1; obtain ⟨G2, I2, J2, L2, M2, N2, O2, R2, T2, U2⟩ := zc5 l; obtain ⟨V2, X2, a3, b3, c3, d3, e3, f3, g3, i3⟩ := zc5 q) | ((with_reducible refine gc 30 rfl ?_); refine zF 14 Try.func30 #[.slice s0 U.length t0] rfl zL ?_; refine (laws_toFixS.calls k _ _ U g0 _ (z4 p1.out zB) q1.out A4.out).mono ?_; rintro e x5 ⟨v309, rfl, J, hb⟩; refine ⟨_, rfl, ?_⟩; have A := zK (Kd.R_below (Kd.R_mono (zlR (Kd.R_types y.out l.out (by decide))) (fun _ h_ => h_.1)) hb); have B := zK (Kd.R_below (Kd.R_mono (zlR (Kd.R_types z.out l.out (by decide))) (fun _ h_ => h_.1)) hb); have E := zK (Kd.S_lower (Kd.S_new' (Kd.S_new' J (Kd.R_lt (Kd.R_mono (zlR (Kd.R_types y.out l.out (by decide))) (fun _ h_ => h_.1)))) (Kd.R_lt (Kd.R_mono (zlR (Kd.R_types z.out l.out (by decide))) (fun _ h_ => h_.1)))) (zz zB)); have I := zK (zg (zV q) hb); have M := zK (zg (zV u) hb); have c0 := zK (zg (g := i0) (o := .cells #[.slice l0 b0.length m0, .slice D0 d0.length E0, .slice none 0 0, .slice none 0 0, .slice none 0 0] 34 (0, 0)) (zW l) hb); have e0 := z8 hb; revert A B E I M c0 e0; clear y z q u l HB; intro y z L q u l HB; obtain ⟨O0, R0, J1⟩ := Kd.S_slice L.out; subst J1; obtain ⟨j3, l3, m3, n3, o3, p3, q3, s3, t3, x3⟩ := zc5 l; obtain ⟨y3, B3, C3, D3, E3, F3, G3, I3, J3, L3⟩ := zc5 q) | ((with_reducible refine gc 31 rfl ?_); refine zF 18 Try.func31 #[.slice x0 X.length y0] rfl zL ?_; refine (laws_toKernelS.calls k _ _ X j0 _ (z4 s1.out zB) t1.out A5.out).mono ?_; rintro e y5 ⟨v312, rfl, J, hb⟩; refine ⟨_, rfl, ?_⟩; have A := zK (Kd.R_below (Kd.R_mono (zlR (Kd.R_types y.out l.out (by decide))) (fun _ h_ => h_.1)) hb); have B := zK (Kd.R_below (Kd.R_mono (zlR (Kd.R_types z.out l.out (by decide))) (fun _ h_ => h_.1)) hb); have E := zK (Kd.S_below (Kd.S_mono (zlS (Kd.S_types L.out l.out (by decide))) (fun _ h_ => h_.1)) hb); have I := zK (Kd.R_lower (Kd.R_new' (Kd.R_new' J (Kd.R_lt (Kd.R_mono (zlR (Kd.R_types y.out l.out (by decide))) (fun _ h_ => h_.1)))) (Kd.R_lt (Kd.R_mono (zlR (Kd.R_types z.out l.out (by decide))) (fun _ h_ => h_.1)))) (zz zB)); have M := zK (zg (zV q) hb); have c0 := zK (zg (zV u) hb); have e0 := zK (zg (g := i0) (o := .cells #[.slice l0 b0.length m0, .slice D0 d0.length E0, .slice O0 g0.length R0, .slice none 0 0, .slice none 0 0] 34 (0, 0)) (zW l) hb); have I0 := z8 hb; revert A B E I M c0 e0 I0; clear y z L q u l HB; intro y z L f0 q u l HB; obtain ⟨i1, j1, L1⟩ := Kd.R_slice f0.out; subst L1; obtain ⟨M3, N3, O3, R3, S3, T3, U3, V3, X3, a4⟩ := zc5 l; obtain ⟨b4, c4, d4, e4, f4, g4, i4, j4, l4, m4⟩ := zc5 q) | ((with_reducible refine gc 23 rfl ?_); refine zF 22 Try.func23 #[.slice A0 a0.length B0] rfl zL ?_; refine (laws_toIntS.calls k _ _ a0 C0 _ (z4 x1.out zB) y1.out A6.out).mono ?_; rintro e B5 ⟨v315, rfl, J, hb⟩; refine ⟨_, rfl, ?_⟩; have A := zK (Kd.R_elder' (Kd.R_mono (zlR (Kd.R_types y.out l.out (by decide))) (fun _ h_ => h_.1)) (Kd.R_base J) hb); have B := zK (Kd.R_elder' (Kd.R_mono (zlR (Kd.R_types z.out l.out (by decide))) (fun _ h_ => h_.1)) (Kd.R_base J) hb); have E := zK (Kd.S_elder' (Kd.S_mono (zlS (Kd.S_types L.out l.out (by decide))) (fun _ h_ => h_.1)) (Kd.R_base J) hb); have I := zK (Kd.R_elder' (Kd.R_mono (zlR (Kd.R_types f0.out l.out (by decide))) (fun _ h_ => h_.1)) (Kd.R_base J) hb); have M := zK (Kd.R_lower (Kd.R_new' (Kd.R_new' J (Kd.R_lt (Kd.R_mono (zlR (Kd.R_types y.out l.out (by decide))) (fun _ h_ => h_.1)))) (Kd.R_lt (Kd.R_mono (zlR (Kd.R_types z.out l.out (by decide))) (fun _ h_ => h_.1)))) (zz zB)); have c0 := zK (zg (zV q) hb); have e0 := zK (zg (zV u) hb); have I0 := zK (zg (g := i0) (o := .cells #[.slice l0 b0.length m0, .slice D0 d0.length E0, .slice O0 g0.length R0, .slice i1 j0.length j1, .slice none 0 0] 34 (0, 0)) (zW l) hb); have g1 := z8 hb; revert A B E I M c0 e0 I0 g1; clear y z L f0 q u l HB; intro y z L f0 f1 q u l HB; obtain ⟨M1, N1, O1⟩ := Kd.R_slice f1.out; subst O1; obtain ⟨n4, o4, p4, q4, s4, t4, x4, y4, B4, C4⟩ := zc5 l; obtain ⟨D4, E4, F4, G4, I4, J4, L4, M4, N4, O4⟩ := zc5 u))
 refine bodyPost_ret (results_cell_row rfl _ _ A1 34 #[.slice l0 b0.length m0, .slice D0 d0.length E0, .slice O0 g0.length R0, .slice i1 j0.length j1, .slice M1 C0.length N1] (0, 0) _ rfl (zW u) Try.underlying34 rfl (by kernel_rfl)) rfl ?_
 exact ⟨_, _, _, _, _, zE, Kd.R_mono (zlR (Kd.R_types (Kd.R_types y.out l.out (by decide)) u.out (by decide))) (fun _ hk => ⟨hk.1.1.1.2, hk.1.1.2⟩), Kd.R_mono (zlR (Kd.R_types (Kd.R_types z.out l.out (by decide)) u.out (by decide))) (fun _ hk => ⟨hk.1.1.1.2, hk.1.1.2⟩), Kd.S_mono (zlS (Kd.S_types (Kd.S_types L.out l.out (by decide)) u.out (by decide))) (fun _ hk => ⟨hk.1.1.1.1.2, ⟨hk.1.1.1.2, hk.1.1.2⟩⟩), Kd.R_mono (zlR (Kd.R_types (Kd.R_types f0.out l.out (by decide)) u.out (by decide))) (fun _ hk => ⟨hk.1.1.1.1.2, ⟨hk.1.1.1.2, hk.1.1.2⟩⟩), Kd.R_mono (zlR (Kd.R_types (Kd.R_types f1.out l.out (by decide)) u.out (by decide))) (fun _ hk => ⟨hk.1.1.1.2, hk.1.1.2⟩), zB⟩
def impl_isNum.f (l : Int) : Option (Bool) := if l ≥ 0 then (some (decide (l < 2147483647))) else (some false)
theorem impl_isNum.calls (q) (r : Bool) (w) (h : impl_isNum.f q = some r) :
 Calls Try.prog 82 #[.int .i64 q] w fun e w' => e = .returned (.bool r) ∧ Drawn0 w w' := by
 have H : (if q ≥ 0 then (some (decide (q < 2147483647))) else (some false)) = some r := h
 clear h
 by_cases l : q ≥ 0
 · rw [if_pos l] at H
   have u := z1 l
   clear l
   obtain rfl := z5 H
   go_enter Try.func82, Try.ntmps82
   go_wp2
   go_ret
   exact ⟨zR, zD⟩
 rw [if_neg l] at H
 have u := z2 l
 clear l
 obtain rfl := z5 H
 go_enter Try.func82, Try.ntmps82
 go_wp2
 go_ret
 exact ⟨zR, zD⟩
def impl_allNums.l0 : Nat → List Int → Int → Int → Option (Bool)
 | 0, _, _, _ => none
 | k + 1, q, y, l => if l < y then (if 0 ≤ l then (if l < (q.length : Int) then ((impl_isNum.f (rd q l)).bind fun u => (if u = true then (impl_allNums.l0 k q y (wrap64 (l + 1))) else (some false))) else (none)) else (none)) else (some true)
def impl_allNums.f (k : Nat) (l : List Int) : Option (Bool) := impl_allNums.l0 k l (l.length : Int) 0
theorem impl_allNums.calls (k) (A0) (c0) (q : List Int) (r : Bool) (w) (M : Kd.C (Kd.int .i64) w A0 q.length q) (O : q.length ≤ c0) (h : impl_allNums.f k q = some r) :
 Calls Try.prog 66 #[.slice A0 q.length c0] w fun e w' => e = .returned (.bool r) ∧ Drawn0 w w' := by
 have T := zK M
 have j0 := zK O
 clear M O
 have H : (impl_allNums.l0 k q (q.length : Int) 0) = some r := h
 clear h
 have H' := zK H
 clear H
 go_enter Try.func66, Try.ntmps66
 go_wp2
 go_loopg [7] k (fun kq v7 w' => ∃ (l : Int), v7 = .int .i64 l ∧ Aside0 (impl_allNums.l0 kq q (q.length : Int) l = some r) ∧ Aside0 (kq ≤ k) ∧ Drawn0 w w')
 case atStart => exact ⟨(0), zR, H', ⟨Nat.le_refl _⟩, zD⟩
 clear H'
 obtain ⟨l, rfl, HA, U, ⟨m1, rfl⟩⟩ := hrel
 rcases gk with _ | k1
 · exact absurd HA.out (by simp [impl_allNums.l0])
 have H := HA.out
 clear HA
 simp only [impl_allNums.l0] at H
 by_cases A : l < (q.length : Int)
 rotate_left
 · rw [if_neg A] at H
   have a0 := z2 A
   clear A
   obtain rfl := z5 H
   go_wp2
   go_ret
   exact ⟨zR, zD⟩
 rw [if_pos A] at H
 have a0 := z1 A
 clear A
 by_cases E : 0 ≤ l
 rotate_left
 · rw [if_neg E] at H
   exact absurd H (by simp)
 rw [if_pos E] at H
 have g0 := z1 E
 clear E
 by_cases I : l < (q.length : Int)
 rotate_left
 · rw [if_neg I] at H
   exact absurd H (by simp)
 rw [if_pos I] at H
 have i0 := z1 I
 clear I
 replace H := z6 H
 obtain ⟨b0, X, H⟩ := H
 have A5 := zK X
 clear X
 by_cases J : b0 = true
 rotate_left
 · replace J := Bool.eq_false_iff.mpr J
   subst J
   rw [if_neg (show ¬ (false = true) by decide)] at H
   obtain rfl := z5 H
   have u : 0 ≤ (l : Int) := z3
   have y : l < (q.length : Int) := z3
   obtain ⟨L, z, B⟩ := Kd.at_int T.out l u y
   cases z
   replace u := eq_true u
   replace y := eq_true y
   go_wp2_with (first | ((with_reducible refine gc 82 rfl ?_); refine zF 12 Try.func82 #[.int .i64 (rd q l)] rfl zL ?_; (with_reducible refine (impl_isNum.calls (rd q l) false _ A5.out).mono ?_); rintro e w' ⟨rfl, ⟨nd, rfl⟩⟩; refine ⟨_, rfl, ?_⟩))
   go_ret
   exact ⟨zR, zD⟩
 subst J
 rw [if_pos rfl] at H
 have H' := zK H
 clear H
 have u : 0 ≤ (l : Int) := z3
 have y : l < (q.length : Int) := z3
 obtain ⟨L, z, B⟩ := Kd.at_int T.out l u y
 cases z
 replace u := eq_true u
 replace y := eq_true y
 go_wp2_with (first | ((with_reducible refine gc 82 rfl ?_); refine zF 12 Try.func82 #[.int .i64 (rd q l)] rfl zL ?_; (with_reducible refine (impl_isNum.calls (rd q l) true _ A5.out).mono ?_); rintro e w' ⟨rfl, ⟨nd, rfl⟩⟩; refine ⟨_, rfl, ?_⟩))
 go_roundg k1
 case measure => have := U.out; omega
 case rel => exact ⟨(wrap64 (l + 1)), zR, H', ⟨by have := U.out; omega⟩, zD⟩
end Go.Proofs.Ytmcboiffbcnalaa.PFnExactLives
