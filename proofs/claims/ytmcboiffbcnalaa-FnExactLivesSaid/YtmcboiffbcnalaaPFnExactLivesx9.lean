-- Printed out of the translation by this session's own turned copy of a printer; Lean checks it.
import Derived.Test.YtmcboiffbcnalaaPFnExactLivesx0
import Derived.Test.YtmcboiffbcnalaaPFnExactLivesx6
import Derived.Test.YtmcboiffbcnalaaPFnExactLivesx8
namespace Go.Proofs.Ytmcboiffbcnalaa.PFnExactLives
open Go.RowKit Go.Proofs.YtmcboiffbcnalaaW.PrintWords Go.Proofs.YtmcboiffbcnalaaW.PrintLast Go.Proofs.YtmcboiffbcnalaaW.PrintMore
attribute [local go_sem] max2_int min2_int max_two min_two max_three min_three max_four min_four
set_option linter.unusedVariables false
set_option linter.unusedSimpArgs false
set_option maxHeartbeats 8000000
set_option maxRecDepth 100000
def spec_Lives.l0 : Nat → List (S52) → Int → List Int → List Int → List (S71) → List (S79) → List Int → Option ((List (S52)))
 | 0, _, _, _, _, _, _, _ => none
 | k + 1, B, E, l, u, y, z, A => if E < (l.length : Int) then ((spec_l12Life.f k l u y z A E).bind fun q => (if q.2.2.2.2 = true then (if B.length < 4398046511104 then (spec_Lives.l0 k (B ++ [(⟨q.1, q.2.1, q.2.2.1, q.2.2.2.1⟩ : S52)]) (wrap64 (E + 1)) l u y z A) else (none)) else (spec_Lives.l0 k B (wrap64 (E + 1)) l u y z A))) else (some B)
def spec_Lives.f (k : Nat) (l : List Int) (q : List Int) (u : List (S71)) (y : List (S79)) (z : List Int) : Option ((List (S52))) := (some (([] : List (S52)) : List (S52))).bind fun A => ((spec_NestOk.f k l q u y z).bind fun B => (if B = true then (spec_Lives.l0 k A 0 l q u y z) else (some A)))
theorem spec_Lives.calls (k) (c0) (d0) (q : List Int) (e0) (f0) (u : List Int) (g0) (i0) (y : List (S71)) (j0) (m0) (z : List (S79)) (n0) (o0) (A : List Int) (r : List (S52)) (w) (S0 : Kd.C (Kd.int .i64) w c0 q.length q) (T0 : q.length ≤ d0) (U0 : Kd.C (Kd.int .i64) w e0 u.length u) (V0 : u.length ≤ f0) (X0 : Kd.C k71 w g0 y.length y) (a1 : y.length ≤ i0) (b1 : Kd.C k79 w j0 z.length z) (d1 : z.length ≤ m0) (e1 : Kd.C (Kd.int .i64) w n0 A.length A) (f1 : A.length ≤ o0) (h : spec_Lives.f k q u y z A = some r) :
 Calls Try.prog 11 #[.agg #[.slice c0 q.length d0, .slice e0 u.length f0, .slice g0 y.length i0, .slice j0 z.length m0, .slice n0 A.length o0]] w fun e w' => ∃ v0_ : Value, e = .returned (v0_) ∧ Kd.R k52 52 w' w.heap.size (fun _ => True) v0_ r ∧ Below w.heap.size w w' := by
 have t3 := Try.underlying34
 have x3 := Try.underlying52
 have D0 := zK S0
 have E0 := zK T0
 clear S0 T0
 have F0 := zK U0
 have G0 := zK V0
 clear U0 V0
 have I0 := zK X0
 have J0 := zK a1
 clear X0 a1
 have L0 := zK b1
 have M0 := zK d1
 clear b1 d1
 have N0 := zK e1
 have O0 := zK f1
 clear e1 f1
 have HB := zK (Below.refl w.heap.size w)
 have H : ((some (([] : List (S52)) : List (S52))).bind fun y0 => ((spec_NestOk.f k q u y z A).bind fun A0 => (if A0 = true then (spec_Lives.l0 k y0 0 q u y z A) else (some y0)))) = some r := h
 clear h
 obtain ⟨y0, s0⟩ : ∃ y_ : List (S52), y_ = (([] : List (S52))) := ⟨_, rfl⟩
 replace H : ((spec_NestOk.f k q u y z A).bind fun A0 => (if A0 = true then (spec_Lives.l0 k y0 0 q u y z A) else (some y0))) = some r := by first | (rw [s0]; with_reducible exact H) | (have B0 := (Option.bind_some _ _).symm.trans H; rw [s0]; with_reducible exact B0) | (have B0 := (Option.bind_some _ _).symm.trans H; with_reducible exact B0) | with_reducible exact H | (rw [s0]; exact H) | exact H
 have Ny202 := zK s0
 clear s0
 replace H := z6 H
 obtain ⟨A0, R1, H⟩ := H
 have A2 := zK R1
 clear R1
 rcases zN (A0 = true) with c3 | c3
 replace c3 := Bool.eq_false_iff.mpr c3
 subst c3
 rw [if_neg (show ¬ (false = true) by decide)] at H
 obtain rfl := z5 H
 rotate_left
 subst c3
 rw [if_pos rfl] at H
 have H' := zK H
 clear H
 all_goals go_enter Try.func11, Try.ntmps11
 all_goals go_wp2_with (first | ((with_reducible refine gd 1 rfl ?_); refine zJ 1 #[.slice c0 q.length d0, .slice e0 u.length f0, .slice g0 y.length i0, .slice j0 z.length m0, .slice n0 A.length o0] 34 ?_; intro g1 hg w4 hbox hb; have I := z8 hb; have J := zK (hbox); have L := z9 hg; have C0 := z9 hg; revert I J L C0; clear HB; intro HB l m3 n3; clear hb hbox hg) | ((with_reducible refine gd 7 rfl ?_); refine Kd.R_lit k52 _ 52 ?hg (N := 7) ?hd (xs := ([] : List (S52))) (inner := []) (ok := fun _ => True) (okp := fun _ => True) ?hr ?hp (fun _ hk => hk) trivial (Below.refl _ _) (Nat.le_refl _) (by simp) ?_; (case hd => rfl); (case hg => rfl); (case hr => first | (go_simp; done) | (go_simp; rfl)); (case hp => exact (Reps.none _ _)); intro v203 w5 R0 hb hg_ hnew_; clear hg_ hnew_; (first | rw [← Ny202.out] at R0 | (simp only [Int.reduceToNat] at R0; rw [← Ny202.out] at R0)); have I := zK (Kd.R_lower R0 (zz zB)); have J := z7 l hb; have L := z8 hb; revert I J L; clear l HB; intro t0 l HB; clear hb R0; obtain ⟨o1, p1, q1, s1, t1, x1, y1, A1, B1, C1⟩ := zc5 l) | ((with_reducible refine gc 20 rfl ?_); refine zF 9 Try.func20 #[.agg #[.slice c0 q.length d0, .slice e0 u.length f0, .slice g0 y.length i0, .slice j0 z.length m0, .slice n0 A.length o0]] rfl zL ?_; refine (spec_NestOk.calls k _ _ q _ _ u _ _ y _ _ z _ _ A _ _ (zS D0) E0.out (zS F0) G0.out (zS I0) J0.out (zS L0) M0.out (zS N0) O0.out A2.out).mono ?_; rintro e w8 ⟨rfl, hb⟩; refine ⟨_, rfl, ?_⟩; have I := zK (Kd.R_below (zkR t0) hb); have J := z7 l hb; have L := z8 hb; revert I J L; clear t0 l HB; intro t0 l HB))
 · go_loopg [3, 4] k (fun kq v3 v4 w' => ∃ (O : List (S52)) (E : Int), v4 = .int .i64 E ∧ Aside0 (spec_Lives.l0 kq O E q u y z A = some r) ∧ Aside0 (kq ≤ k) ∧ Aside0 (Kd.R k52 52 w' w.heap.size (fun _ => True) v3 O) ∧ Aside0 (w'.heap[g1]? = some (.cells #[(.slice c0 q.length d0), (.slice e0 u.length f0), (.slice g0 y.length i0), (.slice j0 z.length m0), (.slice n0 A.length o0)] 34 (0, 0))) ∧ Aside0 (Below w.heap.size w w'))
   case atStart => exact ⟨(y0), (0), zR, H', ⟨Nat.le_refl _⟩, ⟨zkR t0⟩, ⟨zM l⟩, ⟨zB⟩⟩
   clear H'
   try clear c1
   try clear c2
   try clear p2
   try clear c3
   try clear o1 p1 q1 s1 t1 x1 y1 A1 B1 C1
   obtain ⟨O, E, rfl, HA, i1, B, l, HB⟩ := hrel
   rcases gk with _ | k1
   · exact absurd HA.out (by simp [spec_Lives.l0])
   have H := HA.out
   clear HA
   simp only [spec_Lives.l0] at H
   by_cases c9 : E < (q.length : Int)
   rotate_left
   · rw [if_neg c9] at H
     have T1 := z2 c9
     clear c9
     obtain rfl := z5 H
     obtain ⟨U1, V1, X1, a2, b2, d2, e2, f2, g2, i2⟩ := zc5 l
     go_wp2
     go_ret
     exact ⟨_, zE, zkR B, zB⟩
   rw [if_pos c9] at H
   have T1 := z1 c9
   clear c9
   replace H := z6 H
   obtain ⟨⟨T, U, X, a0, D1⟩, E1, H⟩ := H
   replace H : (if D1 = true then (if O.length < 4398046511104 then (spec_Lives.l0 k1 (O ++ [(⟨T, U, X, a0⟩ : S52)]) (wrap64 (E + 1)) q u y z A) else (none)) else (spec_Lives.l0 k1 O (wrap64 (E + 1)) q u y z A)) = some r := H
   have S1 := zK E1
   clear E1
   by_cases j1 : D1 = true
   rotate_left
   · replace j1 := Bool.eq_false_iff.mpr j1
     subst j1
     rw [if_neg (show ¬ (false = true) by decide)] at H
     have H' := zK H
     clear H
     obtain ⟨j2, l2, m2, n2, o2, q2, s2, t2, x2, y2⟩ := zc5 l
     go_wp2_with (first | ((with_reducible refine gc 21 rfl ?_); refine zF 22 Try.func21 #[.agg #[.slice c0 q.length d0, .slice e0 u.length f0, .slice g0 y.length i0, .slice j0 z.length m0, .slice n0 A.length o0], .int .i64 E] rfl zL ?_; refine (spec_l12Life.calls k1 _ _ q _ _ u _ _ y _ _ z _ _ A E T U X a0 false _ (zS D0) E0.out (zS F0) G0.out (zS I0) J0.out (zS L0) M0.out (zS N0) O0.out S1.out).mono ?_; rintro e A3 ⟨rfl, hb⟩; refine ⟨_, rfl, ?_⟩; have I := zK (Kd.R_below (zkR B) hb); have J := z7 l hb; have L := z8 hb; revert I J L; clear B l HB; intro B l HB) | ((with_reducible refine gd 5 rfl ?_); refine zJ 5 #[.int .i64 0, .int .i64 0, .int .i64 0, .int .i64 0] 52 ?_; intro M hg B3 hbox hb; have I := zK (Kd.R_below (Kd.R_elderB (zkR B) M (Nat.le_of_eq hg.symm)) hb); have J := z7 l hb; have L := z8 hb; have C0 := zK (hbox); have F1 := z9 hg; have G1 := z9 hg; have I1 := zHH hg l; have J1 := zGG hg l; revert I J L C0 F1 G1 I1 J1; clear B l HB; intro B l HB b0 M1 N1 p0 q0; clear hb hbox hg; have o3 := q0.out; have p3 := p0.out; obtain ⟨B2, C2, D2, E2, F2, G2, I2, J2⟩ := zc4 b0))
     go_roundg k1
     case measure => have := i1.out; omega
     case rel => exact ⟨(O), (wrap64 (E + 1)), zR, H', ⟨by have := i1.out; omega⟩, ⟨Kd.R_mono (zlR (Kd.R_mono B.out (fun k_ hk => (⟨hk, hk.2⟩ : _ ∧ k_ ≠ M)))) (fun _ hk => trivial)⟩, ⟨zV l⟩, ⟨zB⟩⟩
   subst j1
   rw [if_pos rfl] at H
   by_cases l1 : O.length < 4398046511104
   rotate_left
   · rw [if_neg l1] at H
     exact absurd H (by simp)
   rw [if_pos l1] at H
   have LMc12 := zK l1
   clear l1
   obtain ⟨L1, x0⟩ : ∃ y_ : List (S52), y_ = (O ++ [(⟨T, U, X, a0⟩ : S52)]) := ⟨_, rfl⟩
   replace H : (spec_Lives.l0 k1 L1 (wrap64 (E + 1)) q u y z A) = some r := by first | (rw [x0]; with_reducible exact H) | (have B0 := (Option.bind_some _ _).symm.trans H; rw [x0]; with_reducible exact B0) | (have B0 := (Option.bind_some _ _).symm.trans H; with_reducible exact B0) | with_reducible exact H | (rw [x0]; exact H) | exact H
   have Ny212 := zK x0
   clear x0
   have H' := zK H
   clear H
   obtain ⟨L2, M2, N2, O2, R2, T2, U2, V2, X2, a3⟩ := zc5 l
   go_wp2_with (first | ((with_reducible refine gc 21 rfl ?_); refine zF 22 Try.func21 #[.agg #[.slice c0 q.length d0, .slice e0 u.length f0, .slice g0 y.length i0, .slice j0 z.length m0, .slice n0 A.length o0], .int .i64 E] rfl zL ?_; refine (spec_l12Life.calls k1 _ _ q _ _ u _ _ y _ _ z _ _ A E T U X a0 true _ (zS D0) E0.out (zS F0) G0.out (zS I0) J0.out (zS L0) M0.out (zS N0) O0.out S1.out).mono ?_; rintro e C3 ⟨rfl, hb⟩; refine ⟨_, rfl, ?_⟩; have I := zK (Kd.R_below (zkR B) hb); have J := z7 l hb; have L := z8 hb; revert I J L; clear B l HB; intro B l HB) | ((with_reducible refine gd 5 rfl ?_); refine zJ 5 #[.int .i64 0, .int .i64 0, .int .i64 0, .int .i64 0] 52 ?_; intro M hg D3 hbox hb; have I := zK (Kd.R_below (Kd.R_elderB (zkR B) M (Nat.le_of_eq hg.symm)) hb); have J := z7 l hb; have L := z8 hb; have C0 := zK (hbox); have F1 := z9 hg; have G1 := z9 hg; have I1 := zHH hg l; have J1 := zGG hg l; revert I J L C0 F1 G1 I1 J1; clear B l HB; intro B l HB b0 M1 N1 p0 q0; clear hb hbox hg; have q3 := q0.out; have s3 := p0.out; obtain ⟨b3, d3, e3, f3, g3, i3, j3, l3⟩ := zc4 b0) | ((with_reducible refine gate_builtin (b := .append) (xs := #[.tmp 26, .tmp 28]) rfl ?_); at_builtin; refine Kd.R_append k52 (w0 := w) w.heap.size rfl (.tmp 26) (.tmp 28) 41 52 (.agg #[(.int .i64 0), (.int .i64 0), (.int .i64 0), (.int .i64 0)]) 32 rfl Try.underlying41 info52 rfl (by decide) (by omega) u3 O (⟨T, U, X, a0⟩ : S52) [.int .i64 T, .int .i64 U, .int .i64 X, .int .i64 a0] (fun k_ => k_ ≠ M) (fun _ => False) rfl (by first | (go_simp; done) | (go_simp; rfl)) ?aP (fun _ hk => hk.elim) ?aF ?aO ?aB ?aS ?aL ?_; (case aP => exact k52_mkM _ _ _ (⟨T, U, X, a0⟩ : S52)); (case aB => exact zB); (case aF => exact (fun k_ hk => Kd.freshB (g := M) (o := .cells #[.int .i64 T, .int .i64 U, .int .i64 X, .int .i64 a0] 52 (0, 0)) (zW b0) k_ hk)); (case aO => exact (Kd.R_mono (zlR (Kd.R_mono B.out (fun k_ hk => (⟨hk, hk.2⟩ : _ ∧ k_ ≠ M)))) (fun _ hk => hk.1.2))); (case aS => exact (zz zB)); (case aL => have := LMc12.out; omega); intro v213 E3 ho hb hg hat; rw [← Ny212.out] at ho; have I := zK (blk_grown (g := g1) (o := .cells #[.slice c0 q.length d0, .slice e0 u.length f0, .slice g0 y.length i0, .slice j0 z.length m0, .slice n0 A.length o0] 34 (0, 0)) (zV l) hg (Kd.R_ne B.out l.out (by decide))); have J := zK (blk_grown (g := M) (o := .cells #[.int .i64 T, .int .i64 U, .int .i64 X, .int .i64 a0] 52 (0, 0)) (zW b0) hg (Kd.R_away B.out (fun _ hk => hk.2))); have L := zK (hb); have C0 := zK (ho); revert I J L C0; clear l b0 HB B; intro l b0 HB O1; clear ho hb hg hat))
   go_roundg k1
   case measure => have := i1.out; omega
   case rel => exact ⟨(L1), (wrap64 (E + 1)), zR, H', ⟨by have := i1.out; omega⟩, ⟨Kd.R_mono (zlR O1.out) (fun _ hk => trivial)⟩, ⟨zM l⟩, ⟨zB⟩⟩
 all_goals go_ret
 all_goals exact ⟨_, zE, zkR t0, zB⟩
def laws_toIntS.l0 : Nat → List Int → List Int → Int → Option (List Int)
 | 0, _, _, _ => none
 | k + 1, q, u, l => if l < (q.length : Int) then (if 0 ≤ l then (if l < (u.length : Int) then (laws_toIntS.l0 k q (u.set (l : Int).toNat (rd q l)) (wrap64 (l + 1))) else (none)) else (none)) else (some u)
def laws_toIntS.f (k : Nat) (l : List Int) : Option (List Int) := if 0 ≤ (l.length : Int) then (if ((l.length : Int) : Int).toNat ≤ 35184372088832 then (laws_toIntS.l0 k l (List.replicate ((l.length : Int) : Int).toNat 0) 0) else (none)) else (none)
theorem laws_toIntS.calls (k) (A0) (c0) (q : List Int) (r : List Int) (w) (i0 : Kd.C (Kd.int .i64) w A0 q.length q) (j0 : q.length ≤ c0) (h : laws_toIntS.f k q = some r) :
 Calls Try.prog 23 #[.slice A0 q.length c0] w fun e w' => ∃ v0_ : Value, e = .returned (v0_) ∧ Kd.R (Kd.int .i64) 3 w' w.heap.size (fun _ => True) v0_ r ∧ Below w.heap.size w w' := by
 have F0 := zK i0
 have N0 := zK j0
 clear i0 j0
 have HB := zK (Below.refl w.heap.size w)
 have H : (if 0 ≤ (q.length : Int) then (if ((q.length : Int) : Int).toNat ≤ 35184372088832 then (laws_toIntS.l0 k q (List.replicate ((q.length : Int) : Int).toNat 0) 0) else (none)) else (none)) = some r := h
 clear h
 by_cases O : 0 ≤ (q.length : Int)
 rotate_left
 · rw [if_neg O] at H
   exact absurd H (by simp)
 rw [if_pos O] at H
 have p0 := eq_true O
 have q0 := z1 O
 clear O
 by_cases T : ((q.length : Int) : Int).toNat ≤ 35184372088832
 rotate_left
 · rw [if_neg T] at H
   exact absurd H (by simp)
 rw [if_pos T] at H
 have s0 := eq_true T
 have t0 := z1 T
 clear T
 obtain ⟨X, z⟩ : ∃ y_ : List Int, y_ = (List.replicate ((q.length : Int) : Int).toNat 0) := ⟨_, rfl⟩
 replace H : (laws_toIntS.l0 k q X 0) = some r := by first | (rw [z]; with_reducible exact H) | (have B := (Option.bind_some _ _).symm.trans H; rw [z]; with_reducible exact B) | (have B := (Option.bind_some _ _).symm.trans H; with_reducible exact B) | with_reducible exact H | (rw [z]; exact H) | exact H
 have Ny215 := zK z
 clear z
 have H' := zK H
 clear H
 go_enter Try.func23, Try.ntmps23
 go_wp2_with (first | ((with_reducible refine gd 7 rfl ?_); refine Kd.R_make (Kd.int .i64) _ 3 rfl (N := 7) rfl 22 _ _ rfl (q.length : Int) rfl rfl Try.underlying22 (.int .i64 0) 8 info3 rfl (by decide) (by omega) 0 (ok := fun _ => True) (okp := fun _ => True) rfl (fun _ hk => hk) trivial (z3) (Nat.le_trans (Nat.mul_le_mul_right _ (z3 : (q.length : Int).toNat ≤ 35184372088832)) (by omega)) (Below.refl _ _) (Nat.le_refl _) ?_; intro v216 w4 I hb hg_ hnew_; clear hg_ hnew_; (first | rw [← Ny215.out] at I | (simp only [Int.reduceToNat] at I; rw [← Ny215.out] at I)); have a0 := zK (Kd.R_lower I (zz zB)); have b0 := z8 hb; revert a0 b0; clear HB; intro e0 HB; clear hb I))
 go_loopg [4] k (fun kq v4 w' => ∃ (u : List Int) (l : Int), v4 = .int .i64 l ∧ Aside0 (laws_toIntS.l0 kq q u l = some r) ∧ Aside0 (kq ≤ k) ∧ Aside0 (Kd.R (Kd.int .i64) 3 w' w.heap.size (fun _ => True) v216 u) ∧ Aside0 (Below w.heap.size w w'))
 case atStart => exact ⟨(X), (0), zR, H', ⟨Nat.le_refl _⟩, ⟨zkR e0⟩, ⟨zB⟩⟩
 clear H'
 try clear O
 try clear p0
 try clear q0
 try clear p2
 try clear T
 try clear s0
 try clear t0
 obtain ⟨u, l, rfl, HA, m0, y, HB⟩ := hrel
 rcases gk with _ | k1
 · exact absurd HA.out (by simp [laws_toIntS.l0])
 have H := HA.out
 clear HA
 simp only [laws_toIntS.l0] at H
 by_cases U : l < (q.length : Int)
 rotate_left
 · rw [if_neg U] at H
   have x0 := z2 U
   clear U
   obtain rfl := z5 H
   go_wp2
   go_ret
   exact ⟨_, zE, zkR y, zB⟩
 rw [if_pos U] at H
 have x0 := z1 U
 clear U
 by_cases c7 : 0 ≤ l
 rotate_left
 · rw [if_neg c7] at H
   exact absurd H (by simp)
 rw [if_pos c7] at H
 have L0 := z1 c7
 clear c7
 by_cases c8 : l < (u.length : Int)
 rotate_left
 · rw [if_neg c8] at H
   exact absurd H (by simp)
 rw [if_pos c8] at H
 have M0 := z1 c8
 clear c8
 obtain ⟨J, A⟩ : ∃ y_ : List Int, y_ = (u.set (l : Int).toNat (rd q l)) := ⟨_, rfl⟩
 replace H : (laws_toIntS.l0 k1 q J (wrap64 (l + 1))) = some r := by first | (rw [A]; with_reducible exact H) | (have B := (Option.bind_some _ _).symm.trans H; rw [A]; with_reducible exact B) | (have B := (Option.bind_some _ _).symm.trans H; with_reducible exact B) | with_reducible exact H | (rw [A]; exact H) | exact H
 have Ny219 := zK A
 clear A
 have H' := zK H
 clear H
 have L : 0 ≤ (l : Int) := z3
 have M : l < (q.length : Int) := z3
 obtain ⟨I0, y0, E⟩ := Kd.at_int F0.out l L M
 cases y0
 (try replace E := zX HB E)
 replace L := eq_true L
 replace M := eq_true M
 have p9 : 0 ≤ (l : Int) := z3
 have q9 : (l : Int) < ((u.length : Int) : Int) := z3
 obtain ⟨go9, G0, n0, o0, gl9, cl9, HG9⟩ := Kd.R_form y.out (by omega)
 (first | cases n0 | (injection n0 with ea_ en_ ec_; (first | subst ea_ | (injection ea_ with ea_; subst ea_)); subst ec_; clear en_))
 have GB9 := zK o0
 have GG9 := zK HG9
 clear o0 gl9 HG9
 obtain ⟨J0, hf9_0⟩ := Kd.R_celln 0 y.out (l : Int) p9 q9
 replace p9 := eq_true p9
 replace q9 := eq_true q9
 have HP10 := Kd.R_putg y.out (l : Int) (rd q l)
 go_wp2_with (first | ((with_reducible refine gate_store (t := 3) (p := 20) rfl ?_); refine store_event (t := 3) (p := 20) (v := ?vo_w11) (w1 := (wr.setCell ⟨go9, (l : Int).toNat, none⟩ (.int .i64 (rd q l)))) ?hg ?ho ?hn ?hr ?_; (case ho => rfl); (case hg => rfl); (case hn => rfl); (case hr => first | (go_simp; done) | (go_simp; rfl)); intro d0 hw; have hg : wr.grownBy d0 (some go9) := (by rw [hw]; exact HP10.2); have hp_ : Kd.R (Kd.int .i64) 3 d0 w.heap.size (fun _ => True) (.slice (some ⟨go9, 0, none⟩) u.length G0) J := (by rw [hw, Ny219.out]; exact HP10.1); clear HP10; have a0 := zK (hp_); have b0 := zK ((by rw [hw]; exact zs (HB.out) GB9.out : Below w.heap.size w d0)); revert a0 b0; clear y HB; intro y HB; clear hg hw hp_))
 go_roundg k1
 case measure => have := m0.out; omega
 case rel => exact ⟨(J), (wrap64 (l + 1)), zR, H', ⟨by have := m0.out; omega⟩, ⟨zkR y⟩, ⟨zB⟩⟩
def laws_toFix.f (k : Nat) (l : Int) (q : List Int) : Option (Int × List Int) := (laws_toIntS.f k q).bind fun u => (some (l, u))
theorem laws_toFix.calls (k) (z) (J) (L) (u : List Int) (r1) (r2 : List Int) (w) (d0 : Kd.C (Kd.int .i64) w J u.length u) (e0 : u.length ≤ L) (h : laws_toFix.f k z u = some (r1, r2)) :
 Calls Try.prog 55 #[.agg #[.int .i64 z, .slice J u.length L]] w fun e w' => ∃ v1_ : Value, e = .returned (.agg #[.int .i64 r1, v1_]) ∧ Kd.R (Kd.int .i64) 3 w' w.heap.size (fun _ => True) v1_ r2 ∧ Below w.heap.size w w' := by
 have f1 := Try.underlying92
 have g1 := Try.underlying71
 have j0 := zK d0
 have l0 := zK e0
 clear d0 e0
 have HB := zK (Below.refl w.heap.size w)
 have H : ((laws_toIntS.f k u).bind fun M => (some (z, M))) = some (r1, r2) := h
 clear h
 replace H := z6 H
 obtain ⟨M, o0, H⟩ := H
 have A2 := zK o0
 clear o0
 simp only [Option.some.injEq, Prod.mk.injEq] at H
 obtain ⟨rfl, rfl⟩ := H
 go_enter Try.func55, Try.ntmps55
 go_wp2_with (first | ((with_reducible refine gd 1 rfl ?_); refine zJ 1 #[.int .i64 z, .slice J u.length L] 92 ?_; intro V0 hg w3 hbox hb; have A := z8 hb; have B := zK (hbox); have E := z9 hg; have I := z9 hg; revert A B E I; clear HB; intro HB l X0 a1; clear hb hbox hg) | ((with_reducible refine gd 2 rfl ?_); refine zJ 2 #[.int .i64 0, .slice none 0 0] 71 ?_; intro m0 hg w4 hbox hb; have A := z7 l hb; have B := z8 hb; have E := zK (hbox); have I := z9 hg; have O := z9 hg; have g0 := zHH hg l; have i0 := zGG hg l; revert A B E I O g0 i0; clear l HB; intro l HB q b1 c1 T U; clear hb hbox hg) | ((with_reducible refine gd 3 rfl ?_); refine zJ 3 #[.int .i64 0, .slice none 0 0] 71 ?_; intro n0 hg w5 hbox hb; have A := z7 l hb; have B := z7 q hb; have E := z8 hb; have I := zK (hbox); have O := z9 hg; have g0 := z9 hg; have i0 := zHH hg l; have L0 := zGG hg l; have M0 := zHH hg q; have N0 := zGG hg q; revert A B E I O g0 i0 L0 M0 N0; clear l q HB; intro l q HB y d1 e1 X a0 b0 c0; clear hb hbox hg; have j1 := T.out; have l1 := U.out; have m1 := X.out; have n1 := a0.out; obtain ⟨O0, R0, S0, T0⟩ := zc2 l; have o1 := c0.out; have p1 := b0.out; obtain ⟨t0, x0, y0, A0⟩ := zc2 y) | ((with_reducible refine gc 23 rfl ?_); refine zF 9 Try.func23 #[.slice J u.length L] rfl zL ?_; refine (laws_toIntS.calls k _ _ u M _ (z4 j0.out zB) l0.out A2.out).mono ?_; rintro e q1 ⟨v224, rfl, U0, hb⟩; refine ⟨_, rfl, ?_⟩; have A := zK (Kd.R_lower U0 (zz zB)); have B := zK (zg (zV l) hb); have E := zK (zg (zV q) hb); have I := zK (zg (g := n0) (o := .cells #[.int .i64 z, .slice none 0 0] 71 (0, 0)) (zW y) hb); have O := z8 hb; revert A B E I O; clear l q y HB; intro f0 l q y HB; obtain ⟨p0, q0, s0⟩ := Kd.R_slice f0.out; subst s0; obtain ⟨B0, C0, D0, E0⟩ := zc2 y; obtain ⟨F0, G0, I0, J0⟩ := zc2 q))
 refine bodyPost_ret (results_cell_row rfl _ _ m0 71 #[.int .i64 z, .slice p0 M.length q0] (0, 0) _ rfl (zW q) Try.underlying71 rfl (by kernel_rfl)) rfl ?_
 exact ⟨_, zE, Kd.R_mono (zlR (Kd.R_types (Kd.R_types f0.out y.out (by decide)) q.out (by decide))) (fun _ hk => trivial), zB⟩
def laws_toFixS.l0 : Nat → List (S92) → List (S71) → Int → Option ((List (S71)))
 | 0, _, _, _ => none
 | k + 1, u, y, l => if l < (u.length : Int) then (if 0 ≤ l then ((laws_toFix.f k ((rd_T92 u l).f0) ((rd_T92 u l).f1)).bind fun q => (if l < (y.length : Int) then (laws_toFixS.l0 k u (y.set (l : Int).toNat (⟨q.1, q.2⟩ : S71)) (wrap64 (l + 1))) else (none))) else (none)) else (some y)
def laws_toFixS.f (k : Nat) (l : List (S92)) : Option ((List (S71))) := if 0 ≤ (l.length : Int) then (if ((l.length : Int) : Int).toNat ≤ 8796093022208 then (laws_toFixS.l0 k l (List.replicate ((l.length : Int) : Int).toNat z71) 0) else (none)) else (none)
theorem laws_toFixS.calls (k) (A0) (c0) (y : List (S92)) (r : List (S71)) (w) (N0 : Kd.C k92 w A0 y.length y) (O0 : y.length ≤ c0) (h : laws_toFixS.f k y = some r) :
 Calls Try.prog 30 #[.slice A0 y.length c0] w fun e w' => ∃ v0_ : Value, e = .returned (v0_) ∧ Kd.S k71 71 w' w.heap.size (fun _ => True) v0_ r ∧ Below w.heap.size w w' := by
 have o1 := Try.underlying92
 have p1 := Try.underlying71
 have i1 := zK N0
 have x1 := zK O0
 clear N0 O0
 have HB := zK (Below.refl w.heap.size w)
 have H : (if 0 ≤ (y.length : Int) then (if ((y.length : Int) : Int).toNat ≤ 8796093022208 then (laws_toFixS.l0 k y (List.replicate ((y.length : Int) : Int).toNat z71) 0) else (none)) else (none)) = some r := h
 clear h
 by_cases c2 : 0 ≤ (y.length : Int)
 rotate_left
 · rw [if_neg c2] at H
   exact absurd H (by simp)
 rw [if_pos c2] at H
 have U0 := eq_true c2
 have V0 := z1 c2
 clear c2
 by_cases c3 : ((y.length : Int) : Int).toNat ≤ 8796093022208
 rotate_left
 · rw [if_neg c3] at H
   exact absurd H (by simp)
 rw [if_pos c3] at H
 have X0 := eq_true c3
 have a1 := z1 c3
 clear c3
 obtain ⟨s0, B⟩ : ∃ y_ : List (S71), y_ = (List.replicate ((y.length : Int) : Int).toNat z71) := ⟨_, rfl⟩
 replace H : (laws_toFixS.l0 k y s0 0) = some r := by first | (rw [B]; with_reducible exact H) | (have J := (Option.bind_some _ _).symm.trans H; rw [B]; with_reducible exact J) | (have J := (Option.bind_some _ _).symm.trans H; with_reducible exact J) | with_reducible exact H | (rw [B]; exact H) | exact H
 have Ny226 := zK B
 clear B
 have H' := zK H
 clear H
 go_enter Try.func30, Try.ntmps30
 go_wp2_with (first | ((with_reducible refine gd 7 rfl ?_); refine Kd.S_make k71 _ 71 rfl (N := 7) rfl 31 _ _ rfl (y.length : Int) rfl rfl Try.underlying31 (.agg #[(.int .i64 0), (.slice none 0 0)]) 32 info71 rfl (by decide) (by omega) z71 (ok := fun _ => True) (okp := fun _ => True) (k71_mkM _ _ _ z71 (Kd.R_nil _ _ _ _ _)) (fun _ hk => hk) trivial (z3) (Nat.le_trans (Nat.mul_le_mul_right _ (z3 : (y.length : Int).toNat ≤ 8796093022208)) (by omega)) (Below.refl _ _) (Nat.le_refl _) ?_; intro v227 w4 b0 hb hg_ hnew_; clear hg_ hnew_; (first | rw [← Ny226.out] at b0 | (simp only [Int.reduceToNat] at b0; rw [← Ny226.out] at b0)); have d0 := zK (Kd.S_lower b0 (zz zB)); have e0 := z8 hb; revert d0 e0; clear HB; intro J0 HB; clear hb b0))
 go_loopg [4] k (fun kq v4 w' => ∃ (u : List (S71)) (l : Int), v4 = .int .i64 l ∧ Aside0 (laws_toFixS.l0 kq y u l = some r) ∧ Aside0 (kq ≤ k) ∧ Aside0 (Kd.S k71 71 w' w.heap.size (fun _ => True) v227 u) ∧ Aside0 (Below w.heap.size w w'))
 case atStart => exact ⟨(s0), (0), zR, H', ⟨Nat.le_refl _⟩, ⟨zkS J0⟩, ⟨zB⟩⟩
 clear H'
 try clear c2
 try clear U0
 try clear V0
 try clear p2
 try clear c3
 try clear X0
 try clear a1
 obtain ⟨u, l, rfl, HA, R0, q, HB⟩ := hrel
 rcases gk with _ | k1
 · exact absurd HA.out (by simp [laws_toFixS.l0])
 have H := HA.out
 clear HA
 simp only [laws_toFixS.l0] at H
 by_cases c6 : l < (y.length : Int)
 rotate_left
 · rw [if_neg c6] at H
   have b1 := z2 c6
   clear c6
   obtain rfl := z5 H
   go_wp2
   go_ret
   exact ⟨_, zE, zkS q, zB⟩
 rw [if_pos c6] at H
 have b1 := z1 c6
 clear c6
 by_cases c7 : 0 ≤ l
 rotate_left
 · rw [if_neg c7] at H
   exact absurd H (by simp)
 rw [if_pos c7] at H
 have q1 := z1 c7
 clear c7
 replace H := z6 H
 obtain ⟨⟨A, z⟩, S0, H⟩ := H
 replace H : (if l < (u.length : Int) then (laws_toFixS.l0 k1 y (u.set (l : Int).toNat (⟨A, z⟩ : S71)) (wrap64 (l + 1))) else (none)) = some r := H
 have A8 := zK S0
 clear S0
 by_cases c9 : l < (u.length : Int)
 rotate_left
 · rw [if_neg c9] at H
   exact absurd H (by simp)
 rw [if_pos c9] at H
 have t1 := z1 c9
 clear c9
 obtain ⟨g0, E⟩ : ∃ y_ : List (S71), y_ = (u.set (l : Int).toNat (⟨A, z⟩ : S71)) := ⟨_, rfl⟩
 replace H : (laws_toFixS.l0 k1 y g0 (wrap64 (l + 1))) = some r := by first | (rw [E]; with_reducible exact H) | (have J := (Option.bind_some _ _).symm.trans H; rw [E]; with_reducible exact J) | (have J := (Option.bind_some _ _).symm.trans H; with_reducible exact J) | with_reducible exact H | (rw [E]; exact H) | exact H
 have Ny234 := zK E
 clear E
 have H' := zK H
 clear H
 have i0 : 0 ≤ (l : Int) := z3
 have j0 : l < (y.length : Int) := z3
 obtain ⟨n1, t0, x0, c1, M, O, T, U⟩ := at_T92 i1.out l i0 j0
 cases c1
 (try replace M := zX HB M)
 (try replace O := zX HB O)
 have p0 := zK U
 have q0 := zK T
 clear U T
 replace i0 := eq_true i0
 replace j0 := eq_true j0
 go_wp2_with (first | ((with_reducible refine gc 55 rfl ?_); refine zF 20 Try.func55 #[.agg #[.int .i64 ((rd_T92 y l).f0), .slice t0 ((rd_T92 y l).f1).length x0]] rfl zL ?_; refine (laws_toFix.calls k1 ((rd_T92 y l).f0) _ _ ((rd_T92 y l).f1) A z _ (zS p0) q0.out A8.out).mono ?_; rintro e L ⟨v232, rfl, T0, hb⟩; refine ⟨_, rfl, ?_⟩; have d0 := zK (Kd.S_elder' (zkS q) (Kd.R_base T0) hb); have e0 := zK (Kd.R_lower T0 (zz zB)); have j1 := z8 hb; revert d0 e0 j1; clear q HB; intro q I HB; have y0 : 0 ≤ (l : Int) := z3; have B0 : (l : Int) < ((u.length : Int) : Int) := z3; obtain ⟨go10, C0, D0, E0, gl10, cl10, HG10⟩ := Kd.S_form q.out (by omega); (first | cases D0 | (injection D0 with ea_ en_ ec_; (first | subst ea_ | (injection ea_ with ea_; subst ea_)); subst ec_; clear en_)); have GB10 := zK E0; have GG10 := zK HG10; clear E0 gl10 HG10; obtain ⟨_, ce10, hcl10, hM10, hcc10, hfr10, _, _⟩ := Kd.S_elem q.out z71 (l : Int) y0 B0; obtain ⟨ve10_1, rfl, ge10_1⟩ := k71_openM hM10; have l1 : L.cell? ⟨go10, (l : Int).toNat * 2, none⟩ = some (.int .i64 ((rd_T71 u l).f0)) := hcc10 0 _ rfl; have m1 : L.cell? ⟨go10, (l : Int).toNat * 2 + 1, none⟩ = some (ve10_1) := hcc10 1 _ rfl; have hf10_0 : L.frozen? ⟨go10, (l : Int).toNat * 2, none⟩ = false := hfr10 0; have hf10_1 : L.frozen? ⟨go10, (l : Int).toNat * 2 + 1, none⟩ = false := hfr10 1; clear hcl10 hcc10 hfr10 hM10; replace y0 := eq_true y0; replace B0 := eq_true B0; obtain ⟨X, a0, d1⟩ := Kd.R_slice I.out; subst d1; have n_ := zK (Kd.S_mono (ok' := (fun k_ => some k_ ≠ (.slice X z.length a0 : Value).ownBlock)) q.out (fun k_ hk => hk.2)); clear q; have q := n_; clear n_; have HX13 := zK (show Kd.S k71 71 L w.heap.size (fun k_ => ((fun _ => True)) k_ ∧ ¬ ((fun k_ => some k_ = (.slice X z.length a0 : Value).ownBlock)) k_) (.slice (some ⟨go10, 0, none⟩) u.length C0) u from (Kd.S_mono (zlS q.out) (fun k_ hk => ⟨trivial, fun e_ => hk e_⟩))); obtain ⟨oki13, ce13, hcl13, hM13, hcc13, hfr13, hoki13, hH13⟩ := Kd.S_elem HX13.out z71 (l : Int) (z3) (by have h_ : (l : Int) < ((u.length : Int) : Int) := z3; first | exact h_ | (have e_ := (Kd.S_reads' q.out).1; omega) | simpa using h_); obtain ⟨ve13_1, rfl, ge13_1⟩ := k71_openM hM13; have HP13 := Kd.S_seg hH13 (z3) (by have h_ : (l : Int) < ((u.length : Int) : Int) := z3; first | exact h_ | (have e_ := (Kd.S_reads' q.out).1; omega) | simpa using h_) (seg := [.int .i64 A, .slice X z.length a0]) (j := 0) (show 2 ≤ 2 from by decide) (x' := (⟨A, z⟩ : S71)) (k71_mkM _ _ _ (⟨A, z⟩ : S71) (Kd.R_mono (Kd.R_tight rfl (Kd.R_mono (ok' := fun k_ => ((fun _ => True)) k_ ∧ k_ ≠ go10) (Kd.R_apart' (I.out) (Kd.S_typed q.out) (by decide)) (fun k_ hk => ⟨trivial, fun e_ => (hk.2) (by rw [e_]; rfl)⟩))) (fun _ h_ => Or.inr (h_)))) (fun _ hk => hk) (fun k_ hk_ => ((Kd.R_mono (ok' := fun k_ => ((fun _ => True)) k_ ∧ k_ ≠ go10) (Kd.R_apart' (I.out) (Kd.S_typed q.out) (by decide)) (fun k_ hk => ⟨trivial, fun e_ => (hk.2) (by rw [e_]; rfl)⟩))).1 k_ hk_.symm); have F0 := hcc13 0 _ rfl; (try simp only [show (k71).sz = 2 from rfl, Nat.mul_one, Nat.add_zero] at F0); have hf13_0 := hfr13 0; (try simp only [show (k71).sz = 2 from rfl, Nat.mul_one, Nat.add_zero] at hf13_0); have G0 := hcc13 1 _ rfl; (try simp only [show (k71).sz = 2 from rfl, Nat.mul_one, Nat.add_zero] at G0); have hf13_1 := hfr13 1; (try simp only [show (k71).sz = 2 from rfl, Nat.mul_one, Nat.add_zero] at hf13_1); clear hcl13 hcc13 hfr13 hM13 hoki13 hH13) | ((with_reducible refine gate_store (t := 71) (p := 21) rfl ?_); refine store_event (t := 71) (p := 21) (v := ?vo_w14) (w1 := ((L.setCell ⟨go10, (l : Int).toNat * 2, none⟩ (.int .i64 A)).setCell ⟨go10, (l : Int).toNat * 2 + 1, none⟩ (.slice X z.length a0))) ?hg ?ho ?hn ?hr ?_; (case ho => rfl); (case hg => rfl); (case hn => rfl); (case hr => first | (go_simp; done) | (go_simp; rfl)); intro I0 hw; have hg : L.grownBy I0 (some go10) := (by rw [hw]; exact HP13.2); have hp_ : Kd.S k71 71 I0 w.heap.size (fun _ => True) (.slice (some ⟨go10, 0, none⟩) u.length C0) g0 := (by rw [hw, Ny234.out]; exact HP13.1); clear HP13; have d0 := zK (hp_); have e0 := zK ((by rw [hw]; exact zs (zs (HB.out) GB10.out) GB10.out : Below w.heap.size w I0)); revert d0 e0; clear q HB I; intro q HB; clear hg hw hp_))
 go_roundg k1
 case measure => have := R0.out; omega
 case rel => exact ⟨(g0), (wrap64 (l + 1)), zR, H', ⟨by have := R0.out; omega⟩, ⟨zkS q⟩, ⟨zB⟩⟩
def laws_toAccess.f (k : Nat) (l : Int) (q : Int) (u : List Int) : Option (Int × Int × List Int) := (laws_toIntS.f k u).bind fun y => (some (l, q, y))
theorem laws_toAccess.calls (k) (z) (A) (L) (M) (u : List Int) (r1) (r2) (r3 : List Int) (w) (e0 : Kd.C (Kd.int .i64) w L u.length u) (f0 : u.length ≤ M) (h : laws_toAccess.f k z A u = some (r1, r2, r3)) :
 Calls Try.prog 77 #[.agg #[.int .i64 z, .int .i64 A, .slice L u.length M]] w fun e w' => ∃ v2_ : Value, e = .returned (.agg #[.int .i64 r1, .int .i64 r2, v2_]) ∧ Kd.R (Kd.int .i64) 3 w' w.heap.size (fun _ => True) v2_ r3 ∧ Below w.heap.size w w' := by
 have q1 := Try.underlying95
 have s1 := Try.underlying76
 have l0 := zK e0
 have m0 := zK f0
 clear e0 f0
 have HB := zK (Below.refl w.heap.size w)
 have H : ((laws_toIntS.f k u).bind fun O => (some (z, A, O))) = some (r1, r2, r3) := h
 clear h
 replace H := z6 H
 obtain ⟨O, p0, H⟩ := H
 have A2 := zK p0
 clear p0
 simp only [Option.some.injEq, Prod.mk.injEq] at H
 obtain ⟨rfl, rfl, rfl⟩ := H
 go_enter Try.func77, Try.ntmps77
 go_wp2_with (first | ((with_reducible refine gd 1 rfl ?_); refine zJ 1 #[.int .i64 z, .int .i64 A, .slice L u.length M] 95 ?_; intro i1 hg w3 hbox hb; have B := z8 hb; have E := zK (hbox); have I := z9 hg; have J := z9 hg; revert B E I J; clear HB; intro HB l j1 l1; clear hb hbox hg) | ((with_reducible refine gd 2 rfl ?_); refine zJ 2 #[.int .i64 0, .int .i64 0, .slice none 0 0] 76 ?_; intro n0 hg w4 hbox hb; have B := z7 l hb; have E := z8 hb; have I := zK (hbox); have J := z9 hg; have T := z9 hg; have i0 := zHH hg l; have j0 := zGG hg l; revert B E I J T i0 j0; clear l HB; intro l HB q m1 n1 U X; clear hb hbox hg) | ((with_reducible refine gd 3 rfl ?_); refine zJ 3 #[.int .i64 0, .int .i64 0, .slice none 0 0] 76 ?_; intro o0 hg w5 hbox hb; have B := z7 l hb; have E := z7 q hb; have I := z8 hb; have J := zK (hbox); have T := z9 hg; have i0 := z9 hg; have j0 := zHH hg l; have U0 := zGG hg l; have V0 := zHH hg q; have X0 := zGG hg q; revert B E I J T i0 j0 U0 V0 X0; clear l q HB; intro l q HB y o1 p1 a0 b0 c0 d0; clear hb hbox hg; have x1 := U.out; have y1 := X.out; have A1 := a0.out; have B1 := b0.out; obtain ⟨a1, b1, c1, d1, e1, f1⟩ := zc3 l; have C1 := d0.out; have D1 := c0.out; obtain ⟨x0, y0, A0, B0, C0, D0⟩ := zc3 y) | ((with_reducible refine gc 23 rfl ?_); refine zF 12 Try.func23 #[.slice L u.length M] rfl zL ?_; refine (laws_toIntS.calls k _ _ u O _ (z4 l0.out zB) m0.out A2.out).mono ?_; rintro e E1 ⟨v239, rfl, g1, hb⟩; refine ⟨_, rfl, ?_⟩; have B := zK (Kd.R_lower g1 (zz zB)); have E := zK (zg (zV l) hb); have I := zK (zg (zV q) hb); have J := zK (zg (g := o0) (o := .cells #[.int .i64 z, .int .i64 A, .slice none 0 0] 76 (0, 0)) (zW y) hb); have T := z8 hb; revert B E I J T; clear l q y HB; intro g0 l q y HB; obtain ⟨q0, s0, t0⟩ := Kd.R_slice g0.out; subst t0; obtain ⟨E0, F0, G0, I0, J0, L0⟩ := zc3 y; obtain ⟨M0, N0, O0, R0, S0, T0⟩ := zc3 q))
 refine bodyPost_ret (results_cell_row rfl _ _ n0 76 #[.int .i64 z, .int .i64 A, .slice q0 O.length s0] (0, 0) _ rfl (zW q) Try.underlying76 rfl (by kernel_rfl)) rfl ?_
 exact ⟨_, zE, Kd.R_mono (zlR (Kd.R_types (Kd.R_types g0.out y.out (by decide)) q.out (by decide))) (fun _ hk => trivial), zB⟩
def laws_toAccessS.l0 : Nat → List (S95) → List (S76) → Int → Option ((List (S76)))
 | 0, _, _, _ => none
 | k + 1, u, y, q => if q < (u.length : Int) then (if 0 ≤ q then ((laws_toAccess.f k ((rd_T95 u q).f0) ((rd_T95 u q).f1) ((rd_T95 u q).f2)).bind fun l => (if q < (y.length : Int) then (laws_toAccessS.l0 k u (y.set (q : Int).toNat (⟨l.1, l.2.1, l.2.2⟩ : S76)) (wrap64 (q + 1))) else (none))) else (none)) else (some y)
def laws_toAccessS.f (k : Nat) (l : List (S95)) : Option ((List (S76))) := if 0 ≤ (l.length : Int) then (if ((l.length : Int) : Int).toNat ≤ 7036874417766 then (laws_toAccessS.l0 k l (List.replicate ((l.length : Int) : Int).toNat z76) 0) else (none)) else (none)
theorem laws_toAccessS.calls (k) (A0) (c0) (y : List (S95)) (r : List (S76)) (w) (S0 : Kd.C k95 w A0 y.length y) (T0 : y.length ≤ c0) (h : laws_toAccessS.f k y = some r) :
 Calls Try.prog 76 #[.slice A0 y.length c0] w fun e w' => ∃ v0_ : Value, e = .returned (v0_) ∧ Kd.S k76 76 w' w.heap.size (fun _ => True) v0_ r ∧ Below w.heap.size w w' := by
 have t1 := Try.underlying95
 have x1 := Try.underlying76
 have m1 := zK S0
 have C1 := zK T0
 clear S0 T0
 have HB := zK (Below.refl w.heap.size w)
 have H : (if 0 ≤ (y.length : Int) then (if ((y.length : Int) : Int).toNat ≤ 7036874417766 then (laws_toAccessS.l0 k y (List.replicate ((y.length : Int) : Int).toNat z76) 0) else (none)) else (none)) = some r := h
 clear h
 by_cases c2 : 0 ≤ (y.length : Int)
 rotate_left
 · rw [if_neg c2] at H
   exact absurd H (by simp)
 rw [if_pos c2] at H
 have a1 := eq_true c2
 have b1 := z1 c2
 clear c2
 by_cases c3 : ((y.length : Int) : Int).toNat ≤ 7036874417766
 rotate_left
 · rw [if_neg c3] at H
   exact absurd H (by simp)
 rw [if_pos c3] at H
 have c1 := eq_true c3
 have d1 := z1 c3
 clear c3
 obtain ⟨x0, E⟩ : ∃ y_ : List (S76), y_ = (List.replicate ((y.length : Int) : Int).toNat z76) := ⟨_, rfl⟩
 replace H : (laws_toAccessS.l0 k y x0 0) = some r := by first | (rw [E]; with_reducible exact H) | (have M := (Option.bind_some _ _).symm.trans H; rw [E]; with_reducible exact M) | (have M := (Option.bind_some _ _).symm.trans H; with_reducible exact M) | with_reducible exact H | (rw [E]; exact H) | exact H
 have Ny241 := zK E
 clear E
 have H' := zK H
 clear H
 go_enter Try.func76, Try.ntmps76
 go_wp2_with (first | ((with_reducible refine gd 7 rfl ?_); refine Kd.S_make k76 _ 76 rfl (N := 7) rfl 74 _ _ rfl (y.length : Int) rfl rfl Try.underlying74 (.agg #[(.int .i64 0), (.int .i64 0), (.slice none 0 0)]) 40 info76 rfl (by decide) (by omega) z76 (ok := fun _ => True) (okp := fun _ => True) (k76_mkM _ _ _ z76 (Kd.R_nil _ _ _ _ _)) (fun _ hk => hk) trivial (z3) (Nat.le_trans (Nat.mul_le_mul_right _ (z3 : (y.length : Int).toNat ≤ 7036874417766)) (by omega)) (Below.refl _ _) (Nat.le_refl _) ?_; intro v242 w4 e0 hb hg_ hnew_; clear hg_ hnew_; (first | rw [← Ny241.out] at e0 | (simp only [Int.reduceToNat] at e0; rw [← Ny241.out] at e0)); have g0 := zK (Kd.S_lower e0 (zz zB)); have i0 := z8 hb; revert g0 i0; clear HB; intro N0 HB; clear hb e0))
 go_loopg [4] k (fun kq v4 w' => ∃ (u : List (S76)) (l : Int), v4 = .int .i64 l ∧ Aside0 (laws_toAccessS.l0 kq y u l = some r) ∧ Aside0 (kq ≤ k) ∧ Aside0 (Kd.S k76 76 w' w.heap.size (fun _ => True) v242 u) ∧ Aside0 (Below w.heap.size w w'))
 case atStart => exact ⟨(x0), (0), zR, H', ⟨Nat.le_refl _⟩, ⟨zkS N0⟩, ⟨zB⟩⟩
 clear H'
 try clear c2
 try clear a1
 try clear b1
 try clear p2
 try clear c3
 try clear c1
 try clear d1
 obtain ⟨u, l, rfl, HA, U0, q, HB⟩ := hrel
 rcases gk with _ | k1
 · exact absurd HA.out (by simp [laws_toAccessS.l0])
 have H := HA.out
 clear HA
 simp only [laws_toAccessS.l0] at H
 by_cases c6 : l < (y.length : Int)
 rotate_left
 · rw [if_neg c6] at H
   have e1 := z2 c6
   clear c6
   obtain rfl := z5 H
   go_wp2
   go_ret
   exact ⟨_, zE, zkS q, zB⟩
 rw [if_pos c6] at H
 have e1 := z1 c6
 clear c6
 by_cases c7 : 0 ≤ l
 rotate_left
 · rw [if_neg c7] at H
   exact absurd H (by simp)
 rw [if_pos c7] at H
 have y1 := z1 c7
 clear c7
 replace H := z6 H
 obtain ⟨⟨A, B, z⟩, V0, H⟩ := H
 replace H : (if l < (u.length : Int) then (laws_toAccessS.l0 k1 y (u.set (l : Int).toNat (⟨A, B, z⟩ : S76)) (wrap64 (l + 1))) else (none)) = some r := H
 have A8 := zK V0
 clear V0
 by_cases c9 : l < (u.length : Int)
 rotate_left
 · rw [if_neg c9] at H
   exact absurd H (by simp)
 rw [if_pos c9] at H
 have B1 := z1 c9
 clear c9
 obtain ⟨j0, I⟩ : ∃ y_ : List (S76), y_ = (u.set (l : Int).toNat (⟨A, B, z⟩ : S76)) := ⟨_, rfl⟩
 replace H : (laws_toAccessS.l0 k1 y j0 (wrap64 (l + 1))) = some r := by first | (rw [I]; with_reducible exact H) | (have M := (Option.bind_some _ _).symm.trans H; rw [I]; with_reducible exact M) | (have M := (Option.bind_some _ _).symm.trans H; with_reducible exact M) | with_reducible exact H | (rw [I]; exact H) | exact H
 have Ny250 := zK I
 clear I
 have H' := zK H
 clear H
 have m0 : 0 ≤ (l : Int) := z3
 have n0 : l < (y.length : Int) := z3
 obtain ⟨s1, y0, B0, g1, O, T, U, X, a0⟩ := at_T95 m1.out l m0 n0
 cases g1
 (try replace O := zX HB O)
 (try replace T := zX HB T)
 (try replace U := zX HB U)
 have s0 := zK a0
 have t0 := zK X
 clear a0 X
 replace m0 := eq_true m0
 replace n0 := eq_true n0
 go_wp2_with (first | ((with_reducible refine gc 77 rfl ?_); refine zF 20 Try.func77 #[.agg #[.int .i64 ((rd_T95 y l).f0), .int .i64 ((rd_T95 y l).f1), .slice y0 ((rd_T95 y l).f2).length B0]] rfl zL ?_; refine (laws_toAccess.calls k1 ((rd_T95 y l).f0) ((rd_T95 y l).f1) _ _ ((rd_T95 y l).f2) A B z _ (zS s0) t0.out A8.out).mono ?_; rintro e J ⟨v248, rfl, X0, hb⟩; refine ⟨_, rfl, ?_⟩; have g0 := zK (Kd.S_elder' (zkS q) (Kd.R_base X0) hb); have i0 := zK (Kd.R_lower X0 (zz zB)); have n1 := z8 hb; revert g0 i0 n1; clear q HB; intro q L HB; have C0 : 0 ≤ (l : Int) := z3; have D0 : (l : Int) < ((u.length : Int) : Int) := z3; obtain ⟨go10, E0, F0, G0, gl10, cl10, HG10⟩ := Kd.S_form q.out (by omega); (first | cases F0 | (injection F0 with ea_ en_ ec_; (first | subst ea_ | (injection ea_ with ea_; subst ea_)); subst ec_; clear en_)); have GB10 := zK G0; have GG10 := zK HG10; clear G0 gl10 HG10; obtain ⟨_, ce10, hcl10, hM10, hcc10, hfr10, _, _⟩ := Kd.S_elem q.out z76 (l : Int) C0 D0; obtain ⟨ve10_2, rfl, ge10_2⟩ := k76_openM hM10; have o1 : J.cell? ⟨go10, (l : Int).toNat * 3, none⟩ = some (.int .i64 ((rd_T76 u l).f0)) := hcc10 0 _ rfl; have p1 : J.cell? ⟨go10, (l : Int).toNat * 3 + 1, none⟩ = some (.int .i64 ((rd_T76 u l).f1)) := hcc10 1 _ rfl; have q1 : J.cell? ⟨go10, (l : Int).toNat * 3 + 2, none⟩ = some (ve10_2) := hcc10 2 _ rfl; have hf10_0 : J.frozen? ⟨go10, (l : Int).toNat * 3, none⟩ = false := hfr10 0; have hf10_1 : J.frozen? ⟨go10, (l : Int).toNat * 3 + 1, none⟩ = false := hfr10 1; have hf10_2 : J.frozen? ⟨go10, (l : Int).toNat * 3 + 2, none⟩ = false := hfr10 2; clear hcl10 hcc10 hfr10 hM10; replace C0 := eq_true C0; replace D0 := eq_true D0; obtain ⟨b0, d0, i1⟩ := Kd.R_slice L.out; subst i1; have n_ := zK (Kd.S_mono (ok' := (fun k_ => some k_ ≠ (.slice b0 z.length d0 : Value).ownBlock)) q.out (fun k_ hk => hk.2)); clear q; have q := n_; clear n_; have HX13 := zK (show Kd.S k76 76 J w.heap.size (fun k_ => ((fun _ => True)) k_ ∧ ¬ ((fun k_ => some k_ = (.slice b0 z.length d0 : Value).ownBlock)) k_) (.slice (some ⟨go10, 0, none⟩) u.length E0) u from (Kd.S_mono (zlS q.out) (fun k_ hk => ⟨trivial, fun e_ => hk e_⟩))); obtain ⟨oki13, ce13, hcl13, hM13, hcc13, hfr13, hoki13, hH13⟩ := Kd.S_elem HX13.out z76 (l : Int) (z3) (by have h_ : (l : Int) < ((u.length : Int) : Int) := z3; first | exact h_ | (have e_ := (Kd.S_reads' q.out).1; omega) | simpa using h_); obtain ⟨ve13_2, rfl, ge13_2⟩ := k76_openM hM13; have HP13 := Kd.S_seg hH13 (z3) (by have h_ : (l : Int) < ((u.length : Int) : Int) := z3; first | exact h_ | (have e_ := (Kd.S_reads' q.out).1; omega) | simpa using h_) (seg := [.int .i64 A, .int .i64 B, .slice b0 z.length d0]) (j := 0) (show 3 ≤ 3 from by decide) (x' := (⟨A, B, z⟩ : S76)) (k76_mkM _ _ _ (⟨A, B, z⟩ : S76) (Kd.R_mono (Kd.R_tight rfl (Kd.R_mono (ok' := fun k_ => ((fun _ => True)) k_ ∧ k_ ≠ go10) (Kd.R_apart' (L.out) (Kd.S_typed q.out) (by decide)) (fun k_ hk => ⟨trivial, fun e_ => (hk.2) (by rw [e_]; rfl)⟩))) (fun _ h_ => Or.inr (h_)))) (fun _ hk => hk) (fun k_ hk_ => ((Kd.R_mono (ok' := fun k_ => ((fun _ => True)) k_ ∧ k_ ≠ go10) (Kd.R_apart' (L.out) (Kd.S_typed q.out) (by decide)) (fun k_ hk => ⟨trivial, fun e_ => (hk.2) (by rw [e_]; rfl)⟩))).1 k_ hk_.symm); have I0 := hcc13 0 _ rfl; (try simp only [show (k76).sz = 3 from rfl, Nat.mul_one, Nat.add_zero] at I0); have hf13_0 := hfr13 0; (try simp only [show (k76).sz = 3 from rfl, Nat.mul_one, Nat.add_zero] at hf13_0); have J0 := hcc13 1 _ rfl; (try simp only [show (k76).sz = 3 from rfl, Nat.mul_one, Nat.add_zero] at J0); have hf13_1 := hfr13 1; (try simp only [show (k76).sz = 3 from rfl, Nat.mul_one, Nat.add_zero] at hf13_1); have L0 := hcc13 2 _ rfl; (try simp only [show (k76).sz = 3 from rfl, Nat.mul_one, Nat.add_zero] at L0); have hf13_2 := hfr13 2; (try simp only [show (k76).sz = 3 from rfl, Nat.mul_one, Nat.add_zero] at hf13_2); clear hcl13 hcc13 hfr13 hM13 hoki13 hH13) | ((with_reducible refine gate_store (t := 76) (p := 21) rfl ?_); refine store_event (t := 76) (p := 21) (v := ?vo_w14) (w1 := (((J.setCell ⟨go10, (l : Int).toNat * 3, none⟩ (.int .i64 A)).setCell ⟨go10, (l : Int).toNat * 3 + 1, none⟩ (.int .i64 B)).setCell ⟨go10, (l : Int).toNat * 3 + 2, none⟩ (.slice b0 z.length d0))) ?hg ?ho ?hn ?hr ?_; (case ho => rfl); (case hg => rfl); (case hn => rfl); (case hr => first | (go_simp; done) | (go_simp; rfl)); intro M0 hw; have hg : J.grownBy M0 (some go10) := (by rw [hw]; exact HP13.2); have hp_ : Kd.S k76 76 M0 w.heap.size (fun _ => True) (.slice (some ⟨go10, 0, none⟩) u.length E0) j0 := (by rw [hw, Ny250.out]; exact HP13.1); clear HP13; have g0 := zK (hp_); have i0 := zK ((by rw [hw]; exact zs (zs (zs (HB.out) GB10.out) GB10.out) GB10.out : Below w.heap.size w M0)); revert g0 i0; clear q HB L; intro q HB; clear hg hw hp_))
 go_roundg k1
 case measure => have := U0.out; omega
 case rel => exact ⟨(j0), (wrap64 (l + 1)), zR, H', ⟨by have := U0.out; omega⟩, ⟨zkS q⟩, ⟨zB⟩⟩
def laws_toCalc.f (l : Int) (q : Int) (u : Int) : Option (Int × Int × Int) := some (l, q, u)
theorem laws_toCalc.calls (u) (y) (z) (r1) (r2) (r3) (w) (h : laws_toCalc.f u y z = some (r1, r2, r3)) :
 Calls Try.prog 83 #[.agg #[.int .i64 u, .int .i64 y, .int .i64 z]] w fun e w' => e = .returned (.agg #[.int .i64 r1, .int .i64 r2, .int .i64 r3]) ∧ Below w.heap.size w w' := by
 have G0 := Try.underlying124
 have I0 := Try.underlying122
 have HB := zK (Below.refl w.heap.size w)
 have H : (some (u, y, z)) = some (r1, r2, r3) := h
 clear h
 simp only [Option.some.injEq, Prod.mk.injEq] at H
 obtain ⟨rfl, rfl, rfl⟩ := H
 go_enter Try.func83, Try.ntmps83
 go_wp2_with (first | ((with_reducible refine gd 1 rfl ?_); refine zJ 1 #[.int .i64 u, .int .i64 y, .int .i64 z] 124 ?_; intro J0 hg w2 hbox hb; have A := z8 hb; have B := zK (hbox); have E := z9 hg; have I := z9 hg; revert A B E I; clear HB; intro HB l L0 M0; clear hb hbox hg) | ((with_reducible refine gd 2 rfl ?_); refine zJ 2 #[.int .i64 0, .int .i64 0, .int .i64 0] 122 ?_; intro c0 hg w3 hbox hb; have A := z7 l hb; have B := z8 hb; have E := zK (hbox); have I := z9 hg; have X := z9 hg; have a0 := zHH hg l; have b0 := zGG hg l; revert A B E I X a0 b0; clear l HB; intro l HB q N0 O0 J L; clear hb hbox hg) | ((with_reducible refine gd 3 rfl ?_); refine zJ 3 #[.int .i64 0, .int .i64 0, .int .i64 0] 122 ?_; intro R0 hg w4 hbox hb; have A := z7 l hb; have B := z7 q hb; have E := z8 hb; have I := zK (hbox); have X := z9 hg; have a0 := z9 hg; have b0 := zHH hg l; have m0 := zGG hg l; have n0 := zHH hg q; have o0 := zGG hg q; revert A B E I X a0 b0 m0 n0 o0; clear l q HB; intro l q HB d0 S0 T0 M O T U; clear hb hbox hg; have U0 := J.out; have V0 := L.out; have X0 := M.out; have a1 := O.out; obtain ⟨p0, q0, s0, t0, x0, y0⟩ := zc3 l; have b1 := U.out; have c1 := T.out; obtain ⟨A0, B0, C0, D0, E0, F0⟩ := zc3 d0; obtain ⟨e0, f0, g0, i0, j0, l0⟩ := zc3 q))
 refine bodyPost_ret (results_cell_row rfl _ _ c0 122 #[.int .i64 u, .int .i64 y, .int .i64 z] (0, 0) _ rfl (zW q) Try.underlying122 rfl (by kernel_rfl)) rfl ?_
 exact ⟨zE, zB⟩
def laws_toCalcS.l0 : Nat → List (S124) → List (S122) → Int → Option ((List (S122)))
 | 0, _, _, _ => none
 | k + 1, u, y, q => if q < (u.length : Int) then (if 0 ≤ q then ((laws_toCalc.f ((rd_T124 u q).f0) ((rd_T124 u q).f1) ((rd_T124 u q).f2)).bind fun l => (if q < (y.length : Int) then (laws_toCalcS.l0 k u (y.set (q : Int).toNat (⟨l.1, l.2.1, l.2.2⟩ : S122)) (wrap64 (q + 1))) else (none))) else (none)) else (some y)
def laws_toCalcS.f (k : Nat) (l : List (S124)) : Option ((List (S122))) := if 0 ≤ (l.length : Int) then (if ((l.length : Int) : Int).toNat ≤ 11728124029610 then (laws_toCalcS.l0 k l (List.replicate ((l.length : Int) : Int).toNat z122) 0) else (none)) else (none)
theorem laws_toCalcS.calls (k) (A0) (c0) (u : List (S124)) (r : List (S122)) (w) (F0 : Kd.C k124 w A0 u.length u) (G0 : u.length ≤ c0) (h : laws_toCalcS.f k u = some r) :
 Calls Try.prog 78 #[.slice A0 u.length c0] w fun e w' => ∃ v0_ : Value, e = .returned (v0_) ∧ Kd.R k122 122 w' w.heap.size (fun _ => True) v0_ r ∧ Below w.heap.size w w' := by
 have c1 := Try.underlying124
 have d1 := Try.underlying122
 have V0 := zK F0
 have l1 := zK G0
 clear F0 G0
 have HB := zK (Below.refl w.heap.size w)
 have H : (if 0 ≤ (u.length : Int) then (if ((u.length : Int) : Int).toNat ≤ 11728124029610 then (laws_toCalcS.l0 k u (List.replicate ((u.length : Int) : Int).toNat z122) 0) else (none)) else (none)) = some r := h
 clear h
 by_cases c2 : 0 ≤ (u.length : Int)
 rotate_left
 · rw [if_neg c2] at H
   exact absurd H (by simp)
 rw [if_pos c2] at H
 have L0 := eq_true c2
 have M0 := z1 c2
 clear c2
 by_cases c3 : ((u.length : Int) : Int).toNat ≤ 11728124029610
 rotate_left
 · rw [if_neg c3] at H
   exact absurd H (by simp)
 rw [if_pos c3] at H
 have N0 := eq_true c3
 have O0 := z1 c3
 clear c3
 obtain ⟨m0, E⟩ : ∃ y_ : List (S122), y_ = (List.replicate ((u.length : Int) : Int).toNat z122) := ⟨_, rfl⟩
 replace H : (laws_toCalcS.l0 k u m0 0) = some r := by first | (rw [E]; with_reducible exact H) | (have L := (Option.bind_some _ _).symm.trans H; rw [E]; with_reducible exact L) | (have L := (Option.bind_some _ _).symm.trans H; with_reducible exact L) | with_reducible exact H | (rw [E]; exact H) | exact H
 have Ny254 := zK E
 clear E
 have H' := zK H
 clear H
 go_enter Try.func78, Try.ntmps78
 go_wp2_with (first | ((with_reducible refine gd 7 rfl ?_); refine Kd.R_make k122 _ 122 rfl (N := 7) rfl 77 _ _ rfl (u.length : Int) rfl rfl Try.underlying77 (.agg #[(.int .i64 0), (.int .i64 0), (.int .i64 0)]) 24 info122 rfl (by decide) (by omega) z122 (ok := fun _ => True) (okp := fun _ => True) (k122_mkM _ _ _ z122 ) (fun _ hk => hk) trivial (z3) (Nat.le_trans (Nat.mul_le_mul_right _ (z3 : (u.length : Int).toNat ≤ 11728124029610)) (by omega)) (Below.refl _ _) (Nat.le_refl _) ?_; intro v255 w4 U hb hg_ hnew_; clear hg_ hnew_; (first | rw [← Ny254.out] at U | (simp only [Int.reduceToNat] at U; rw [← Ny254.out] at U)); have X := zK (Kd.R_lower U (zz zB)); have a0 := z8 hb; revert X a0; clear HB; intro C0 HB; clear hb U))
 go_loopg [4] k (fun kq v4 w' => ∃ (q : List (S122)) (l : Int), v4 = .int .i64 l ∧ Aside0 (laws_toCalcS.l0 kq u q l = some r) ∧ Aside0 (kq ≤ k) ∧ Aside0 (Kd.R k122 122 w' w.heap.size (fun _ => True) v255 q) ∧ Aside0 (Below w.heap.size w w'))
 case atStart => exact ⟨(m0), (0), zR, H', ⟨Nat.le_refl _⟩, ⟨zkR C0⟩, ⟨zB⟩⟩
 clear H'
 try clear c2
 try clear L0
 try clear M0
 try clear p2
 try clear c3
 try clear N0
 try clear O0
 obtain ⟨q, l, rfl, HA, I0, y, HB⟩ := hrel
 rcases gk with _ | k1
 · exact absurd HA.out (by simp [laws_toCalcS.l0])
 have H := HA.out
 clear HA
 simp only [laws_toCalcS.l0] at H
 by_cases c6 : l < (u.length : Int)
 rotate_left
 · rw [if_neg c6] at H
   have R0 := z2 c6
   clear c6
   obtain rfl := z5 H
   go_wp2
   go_ret
   exact ⟨_, zE, zkR y, zB⟩
 rw [if_pos c6] at H
 have R0 := z1 c6
 clear c6
 by_cases c7 : 0 ≤ l
 rotate_left
 · rw [if_neg c7] at H
   exact absurd H (by simp)
 rw [if_pos c7] at H
 have g1 := z1 c7
 clear c7
 replace H := z6 H
 obtain ⟨⟨z, A, B⟩, J0, H⟩ := H
 replace H : (if l < (q.length : Int) then (laws_toCalcS.l0 k1 u (q.set (l : Int).toNat (⟨z, A, B⟩ : S122)) (wrap64 (l + 1))) else (none)) = some r := H
 have A8 := zK J0
 clear J0
 by_cases c9 : l < (q.length : Int)
 rotate_left
 · rw [if_neg c9] at H
   exact absurd H (by simp)
 rw [if_pos c9] at H
 have j1 := z1 c9
 clear c9
 obtain ⟨b0, I⟩ : ∃ y_ : List (S122), y_ = (q.set (l : Int).toNat (⟨z, A, B⟩ : S122)) := ⟨_, rfl⟩
 replace H : (laws_toCalcS.l0 k1 u b0 (wrap64 (l + 1))) = some r := by first | (rw [I]; with_reducible exact H) | (have L := (Option.bind_some _ _).symm.trans H; rw [I]; with_reducible exact L) | (have L := (Option.bind_some _ _).symm.trans H; with_reducible exact L) | with_reducible exact H | (rw [I]; exact H) | exact H
 have Ny261 := zK I
 clear I
 have H' := zK H
 clear H
 have d0 : 0 ≤ (l : Int) := z3
 have e0 : l < (u.length : Int) := z3
 obtain ⟨e1, S0, M, O, T⟩ := at_T124 V0.out l d0 e0
 cases S0
 (try replace M := zX HB M)
 (try replace O := zX HB O)
 (try replace T := zX HB T)
 replace d0 := eq_true d0
 replace e0 := eq_true e0
 go_wp2_with (first | ((with_reducible refine gc 83 rfl ?_); refine zF 20 Try.func83 #[.agg #[.int .i64 ((rd_T124 u l).f0), .int .i64 ((rd_T124 u l).f1), .int .i64 ((rd_T124 u l).f2)]] rfl zL ?_; (with_reducible refine (laws_toCalc.calls ((rd_T124 u l).f0) ((rd_T124 u l).f1) ((rd_T124 u l).f2) z A B _ A8.out).mono ?_); rintro e J ⟨rfl, hb⟩; refine ⟨_, rfl, ?_⟩; have X := zK (Kd.R_below (zkR y) hb); have a0 := z8 hb; revert X a0; clear y HB; intro y HB; have n0 : 0 ≤ (l : Int) := z3; have o0 : (l : Int) < ((q.length : Int) : Int) := z3; obtain ⟨go10, p0, q0, s0, gl10, cl10, HG10⟩ := Kd.R_form y.out (by omega); (first | cases q0 | (injection q0 with ea_ en_ ec_; (first | subst ea_ | (injection ea_ with ea_; subst ea_)); subst ec_; clear en_)); have GB10 := zK s0; have GG10 := zK HG10; clear s0 gl10 HG10; obtain ⟨ce10, hcl10, hM10, hcc10, hfr10⟩ := Kd.R_elem y.out z122 (l : Int) n0 o0; obtain rfl := k122_openM hM10; have X0 : J.cell? ⟨go10, (l : Int).toNat * 3, none⟩ = some (.int .i64 ((rd_T122 q l).f0)) := hcc10 0 _ rfl; have a1 : J.cell? ⟨go10, (l : Int).toNat * 3 + 1, none⟩ = some (.int .i64 ((rd_T122 q l).f1)) := hcc10 1 _ rfl; have b1 : J.cell? ⟨go10, (l : Int).toNat * 3 + 2, none⟩ = some (.int .i64 ((rd_T122 q l).f2)) := hcc10 2 _ rfl; have hf10_0 : J.frozen? ⟨go10, (l : Int).toNat * 3, none⟩ = false := hfr10 0; have hf10_1 : J.frozen? ⟨go10, (l : Int).toNat * 3 + 1, none⟩ = false := hfr10 1; have hf10_2 : J.frozen? ⟨go10, (l : Int).toNat * 3 + 2, none⟩ = false := hfr10 2; clear hcl10 hcc10 hfr10 hM10; replace n0 := eq_true n0; replace o0 := eq_true o0; have HX12 := zK (show Kd.R k122 122 J w.heap.size (fun _ => True) (.slice (some ⟨go10, 0, none⟩) q.length p0) q from (zkR y)); obtain ⟨ce12, hcl12, hM12, hcc12, hfr12⟩ := Kd.R_elem HX12.out z122 (l : Int) (z3) (by have h_ : (l : Int) < ((q.length : Int) : Int) := z3; first | exact h_ | (have e_ := (Kd.R_reads' y.out).1; omega) | simpa using h_); obtain rfl := k122_openM hM12; have HP12 := Kd.R_seg HX12.out (l : Int) (z3) (by have h_ : (l : Int) < ((q.length : Int) : Int) := z3; first | exact h_ | (have e_ := (Kd.R_reads' y.out).1; omega) | simpa using h_) (seg := [.int .i64 z, .int .i64 A, .int .i64 B]) (j := 0) hcl12 hcc12 (show 3 ≤ 3 from by decide) (x' := (⟨z, A, B⟩ : S122)) (k122_mkM _ _ _ (⟨z, A, B⟩ : S122) ) (fun _ hk => hk); have t0 := hcc12 0 _ rfl; (try simp only [show (k122).sz = 3 from rfl, Nat.mul_one, Nat.add_zero] at t0); have hf12_0 := hfr12 0; (try simp only [show (k122).sz = 3 from rfl, Nat.mul_one, Nat.add_zero] at hf12_0); have x0 := hcc12 1 _ rfl; (try simp only [show (k122).sz = 3 from rfl, Nat.mul_one, Nat.add_zero] at x0); have hf12_1 := hfr12 1; (try simp only [show (k122).sz = 3 from rfl, Nat.mul_one, Nat.add_zero] at hf12_1); have y0 := hcc12 2 _ rfl; (try simp only [show (k122).sz = 3 from rfl, Nat.mul_one, Nat.add_zero] at y0); have hf12_2 := hfr12 2; (try simp only [show (k122).sz = 3 from rfl, Nat.mul_one, Nat.add_zero] at hf12_2); clear hcl12 hcc12 hfr12 hM12) | ((with_reducible refine gate_store (t := 122) (p := 21) rfl ?_); refine store_event (t := 122) (p := 21) (v := ?vo_w13) (w1 := (((J.setCell ⟨go10, (l : Int).toNat * 3, none⟩ (.int .i64 z)).setCell ⟨go10, (l : Int).toNat * 3 + 1, none⟩ (.int .i64 A)).setCell ⟨go10, (l : Int).toNat * 3 + 2, none⟩ (.int .i64 B))) ?hg ?ho ?hn ?hr ?_; (case ho => rfl); (case hg => rfl); (case hn => rfl); (case hr => first | (go_simp; done) | (go_simp; rfl)); intro B0 hw; have hg : J.grownBy B0 (some go10) := (by rw [hw]; exact HP12.2); have hp_ : Kd.R k122 122 B0 w.heap.size (fun _ => True) (.slice (some ⟨go10, 0, none⟩) q.length p0) b0 := (by rw [hw, Ny261.out]; exact HP12.1); clear HP12; have X := zK (hp_); have a0 := zK ((by rw [hw]; exact zs (zs (zs (HB.out) GB10.out) GB10.out) GB10.out : Below w.heap.size w B0)); revert X a0; clear y HB; intro y HB; clear hg hw hp_))
 go_roundg k1
 case measure => have := I0.out; omega
 case rel => exact ⟨(b0), (wrap64 (l + 1)), zR, H', ⟨by have := I0.out; omega⟩, ⟨zkR y⟩, ⟨zB⟩⟩
end Go.Proofs.Ytmcboiffbcnalaa.PFnExactLives
