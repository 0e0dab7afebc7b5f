-- Printed out of the translation by this session's own turned copy of a printer; Lean checks it.
import Derived.Test.YtmcboiffbcnalaaPFnExactPlanOkx0
import Derived.Test.YtmcboiffbcnalaaPFnExactPlanOkx2
namespace Go.Proofs.Ytmcboiffbcnalaa.PFnExactPlanOk
open Go.RowKit Go.Proofs.YtmcboiffbcnalaaW.PrintWords Go.Proofs.YtmcboiffbcnalaaW.PrintLast Go.Proofs.YtmcboiffbcnalaaW.PrintMore
attribute [local go_sem] max2_int min2_int max_two min_two max_three min_three max_four min_four
set_option linter.unusedVariables false
set_option linter.unusedSimpArgs false
set_option maxHeartbeats 8000000
set_option maxRecDepth 100000
def spec_l11Uses.l0 : Nat → Int → List Int → Int → List Int → List (S76) → Int → Int → List Int → Bool → List (S122) → Option (List Int)
 | 0, _, _, _, _, _, _, _, _, _, _ => none
 | k + 1, D, B, A, l, a, q, u, x, y, z => if A < (a.length : Int) then (if 0 ≤ A then (if ((rd_T76 a A).f0) = D then (if B.length < 17592186044416 then (spec_l11Uses.l0 k D (B ++ [A]) (wrap64 (A + 1)) l a q u x y z) else (none)) else (spec_l11Uses.l0 k D B (wrap64 (A + 1)) l a q u x y z)) else (none)) else (some B)
def spec_l11Uses.f (k : Nat) (a : List Int) (l : List (S76)) (q : Int) (u : Int) (x : List Int) (y : Bool) (z : List (S122)) (A : Int) : Option (List Int) := spec_l11Uses.l0 k A (([] : List Int)) 0 a l q u x y z
theorem spec_l11Uses.calls (k) (c0) (d0) (u : List Int) (e0) (g0) (q : List (S76)) (I) (J) (i0) (j0) (x : List Int) (L : Bool) (m0) (n0) (y : List (S122)) (a1) (r : List Int) (w) (A0 : Kd.C (Kd.int .i64) w c0 u.length u) (B0 : u.length ≤ d0) (C0 : Kd.C k76 w e0 q.length q) (D0 : q.length ≤ g0) (E0 : Kd.C (Kd.int .i64) w i0 x.length x) (F0 : x.length ≤ j0) (G0 : Kd.C k122 w m0 y.length y) (I0 : y.length ≤ n0) (h : spec_l11Uses.f k u q I J x L y a1 = some r) :
 Calls Try.prog 63 #[.agg #[.slice c0 u.length d0, .slice e0 q.length g0, .int .i64 I, .int .i64 J, .slice i0 x.length j0, .bool L, .slice m0 y.length n0], .int .i64 a1] w fun e w' => ∃ v0_ : Value, e = .returned (v0_) ∧ Kd.R (Kd.int .i64) 3 w' w.heap.size (fun _ => True) v0_ r ∧ Below w.heap.size w w' := by
 have E2 := Try.underlying79
 have q2 := zK A0
 have s2 := zK B0
 clear A0 B0
 have J0 := zK C0
 have t2 := zK D0
 clear C0 D0
 have x2 := zK E0
 have y2 := zK F0
 clear E0 F0
 have A2 := zK G0
 have B2 := zK I0
 clear G0 I0
 have HB := zK (Below.refl w.heap.size w)
 have H : (spec_l11Uses.l0 k a1 (([] : List Int)) 0 u q I J x L y) = some r := h
 clear h
 obtain ⟨R0, U⟩ : ∃ y_ : List Int, y_ = (([] : List Int)) := ⟨_, rfl⟩
 replace H : (spec_l11Uses.l0 k a1 R0 0 u q I J x L y) = some r := by first | (rw [U]; with_reducible exact H) | (have a0 := (Option.bind_some _ _).symm.trans H; rw [U]; with_reducible exact a0) | (have a0 := (Option.bind_some _ _).symm.trans H; with_reducible exact a0) | with_reducible exact H | (rw [U]; exact H) | exact H
 have Ny182 := zK U
 clear U
 have H' := zK H
 clear H
 go_enter Try.func63, Try.ntmps63
 go_wp2_with (first | ((with_reducible refine gd 2 rfl ?_); refine zJ 2 #[.slice c0 u.length d0, .slice e0 q.length g0, .int .i64 I, .int .i64 J, .slice i0 x.length j0, .bool L, .slice m0 y.length n0] 79 ?_; intro V0 hg w3 hbox hb; have o0 := z8 hb; have p0 := zK (hbox); have q0 := z9 hg; have o2 := z9 hg; revert o0 p0 q0 o2; clear HB; intro HB l C2 D2; clear hb hbox hg) | ((with_reducible refine gd 7 rfl ?_); refine Kd.R_lit (Kd.int .i64) _ 3 ?hg (N := 7) ?hd (xs := ([] : List Int)) (inner := []) (ok := fun _ => True) (okp := fun _ => True) ?hr ?hp (fun _ hk => hk) trivial (Below.refl _ _) (Nat.le_refl _) (by simp) ?_; (case hd => rfl); (case hg => rfl); (case hr => first | (go_simp; done) | (go_simp; rfl)); (case hp => exact (Reps.none _ _)); intro v183 w4 s0 hb hg_ hnew_; clear hg_ hnew_; (first | rw [← Ny182.out] at s0 | (simp only [Int.reduceToNat] at s0; rw [← Ny182.out] at s0)); have o0 := zK (Kd.R_lower s0 (zz zB)); have p0 := z7 l hb; have q0 := z8 hb; revert o0 p0 q0; clear l HB; intro X0 l HB; clear hb s0))
 go_loopg [5, 6] k (fun kq v5 v6 w' => ∃ (M : List Int) (a : Int), v6 = .int .i64 a ∧ Aside0 (spec_l11Uses.l0 kq a1 M a u q I J x L y = some r) ∧ Aside0 (kq ≤ k) ∧ Aside0 (Kd.R (Kd.int .i64) 3 w' w.heap.size (fun _ => True) v5 M) ∧ Aside0 (w'.heap[V0]? = some (.cells #[(.slice c0 u.length d0), (.slice e0 q.length g0), .int .i64 I, .int .i64 J, (.slice i0 x.length j0), .bool L, (.slice m0 y.length n0)] 79 (0, 0))) ∧ Aside0 (Below w.heap.size w w'))
 case atStart => exact ⟨(R0), (0), zR, H', ⟨Nat.le_refl _⟩, ⟨zkR X0⟩, ⟨zM l⟩, ⟨zB⟩⟩
 clear H'
 try clear p2
 obtain ⟨M, a, rfl, HA, L0, b0, l, HB⟩ := hrel
 rcases gk with _ | k1
 · exact absurd HA.out (by simp [spec_l11Uses.l0])
 have H := HA.out
 clear HA
 simp only [spec_l11Uses.l0] at H
 by_cases c6 : a < (q.length : Int)
 rotate_left
 · rw [if_neg c6] at H
   have f1 := z2 c6
   clear c6
   obtain rfl := z5 H
   obtain ⟨j1, l1, m1, n1, o1, p1, q1, s1, t1, x1, y1, A1, B1, C1⟩ := zc7 l
   go_wp2
   go_ret
   exact ⟨_, zE, zkR b0, zB⟩
 rw [if_pos c6] at H
 have f1 := z1 c6
 clear c6
 by_cases c7 : 0 ≤ a
 rotate_left
 · rw [if_neg c7] at H
   exact absurd H (by simp)
 rw [if_pos c7] at H
 have F2 := z1 c7
 clear c7
 by_cases c8 : ((rd_T76 q a).f0) = a1
 rotate_left
 · rw [if_neg c8] at H
   have g1 := beq_eq_false_iff_ne.mpr c8
   have i1 := bne_iff_ne.mpr c8
   have H' := zK H
   clear H
   obtain ⟨D1, E1, F1, G1, I1, J1, L1, M1, N1, O1, R1, S1, T1, U1⟩ := zc7 l
   have O : 0 ≤ (a : Int) := z3
   have T : a < (q.length : Int) := z3
   obtain ⟨c1, S0, T0, y0, z, A, B, D, E⟩ := at_T76 J0.out a O T
   cases y0
   (try replace z := zX HB z)
   (try replace A := zX HB A)
   (try replace B := zX HB B)
   have N0 := zK E
   have O0 := zK D
   clear E D
   replace O := eq_true O
   replace T := eq_true T
   go_wp2
   go_roundg k1
   case measure => have := L0.out; omega
   case rel => exact ⟨(M), (wrap64 (a + 1)), zR, H', ⟨by have := L0.out; omega⟩, ⟨zkR b0⟩, ⟨zM l⟩, ⟨zB⟩⟩
 rw [if_pos c8] at H
 have g1 := beq_iff_eq.mpr c8
 have i1 := bne_eq_false_iff_eq.mpr c8
 clear c8
 by_cases c9 : M.length < 17592186044416
 rotate_left
 · rw [if_neg c9] at H
   exact absurd H (by simp)
 rw [if_pos c9] at H
 have LMc9 := zK c9
 clear c9
 obtain ⟨U0, X⟩ : ∃ y_ : List Int, y_ = (M ++ [a]) := ⟨_, rfl⟩
 replace H : (spec_l11Uses.l0 k1 a1 U0 (wrap64 (a + 1)) u q I J x L y) = some r := by first | (rw [X]; with_reducible exact H) | (have a0 := (Option.bind_some _ _).symm.trans H; rw [X]; with_reducible exact a0) | (have a0 := (Option.bind_some _ _).symm.trans H; with_reducible exact a0) | with_reducible exact H | (rw [X]; exact H) | exact H
 have Ny186 := zK X
 clear X
 have H' := zK H
 clear H
 obtain ⟨V1, X1, a2, b2, c2, d2, e2, f2, g2, i2, j2, l2, m2, n2⟩ := zc7 l
 have O : 0 ≤ (a : Int) := z3
 have T : a < (q.length : Int) := z3
 obtain ⟨c1, S0, T0, y0, z, A, B, D, E⟩ := at_T76 J0.out a O T
 cases y0
 (try replace z := zX HB z)
 (try replace A := zX HB A)
 (try replace B := zX HB B)
 have N0 := zK E
 have O0 := zK D
 clear E D
 replace O := eq_true O
 replace T := eq_true T
 go_wp2_with (first | ((with_reducible refine gate_builtin (b := .append) (xs := #[.tmp 23, .tmp 25]) rfl ?_); at_builtin; refine Kd.R_append (Kd.int .i64) (w0 := w) w.heap.size rfl (.tmp 23) (.tmp 25) 22 3 (.int .i64 0) 8 rfl Try.underlying22 info3 rfl (by decide) (by omega) u5 M a [.int .i64 a] (fun _ => True) (fun _ => False) rfl rfl ?aP (fun _ hk => hk.elim) ?aF ?aO ?aB ?aS ?aL ?_; (case aP => exact rfl); (case aB => exact zB); (case aF => exact (fun _ _ => trivial)); (case aO => exact (zkR b0)); (case aS => exact (zz zB)); (case aL => have := LMc9.out; omega); intro v187 G2 ho hb hg hat; rw [← Ny186.out] at ho; have o0 := zK (blk_grown (zM l) hg (Kd.R_ne b0.out l.out (by decide))); have p0 := zK (hb); have q0 := zK (ho); revert o0 p0 q0; clear l HB b0; intro l HB e1; clear ho hb hg hat))
 go_roundg k1
 case measure => have := L0.out; omega
 case rel => exact ⟨(U0), (wrap64 (a + 1)), zR, H', ⟨by have := L0.out; omega⟩, ⟨zkR e1⟩, ⟨zM l⟩, ⟨zB⟩⟩
def spec_l12Touches.f (k : Nat) (l : List Int) (q : List (S76)) (a : Int) (u : Int) (x : List Int) (y : Bool) (z : List (S122)) (B : Int) : Option (Bool) := if a = B then (some true) else ((spec_l11Uses.f k l q a u x y z B).bind fun A => (some (decide ((A.length : Int) > 0))))
theorem spec_l12Touches.calls (k) (B) (D) (a : List Int) (E) (I) (l : List (S76)) (x) (z) (J) (L) (q : List Int) (A : Bool) (M) (O) (u : List (S122)) (a1) (r : Bool) (w) (X : Kd.C (Kd.int .i64) w B a.length a) (a0 : a.length ≤ D) (b0 : Kd.C k76 w E l.length l) (c0 : l.length ≤ I) (d0 : Kd.C (Kd.int .i64) w J q.length q) (e0 : q.length ≤ L) (f0 : Kd.C k122 w M u.length u) (g0 : u.length ≤ O) (h : spec_l12Touches.f k a l x z q A u a1 = some r) :
 Calls Try.prog 43 #[.agg #[.slice B a.length D, .slice E l.length I, .int .i64 x, .int .i64 z, .slice J q.length L, .bool A, .slice M u.length O], .int .i64 a1] w fun e w' => e = .returned (.bool r) ∧ Below w.heap.size w w' := by
 have g1 := Try.underlying79
 have n0 := zK X
 have o0 := zK a0
 clear X a0
 have p0 := zK b0
 have q0 := zK c0
 clear b0 c0
 have s0 := zK d0
 have t0 := zK e0
 clear d0 e0
 have x0 := zK f0
 have y0 := zK g0
 clear f0 g0
 have HB := zK (Below.refl w.heap.size w)
 have H : (if x = a1 then (some true) else ((spec_l11Uses.f k a l x z q A u a1).bind fun T => (some (decide ((T.length : Int) > 0))))) = some r := h
 clear h
 by_cases U : x = a1
 rw [if_pos U] at H
 have C0 := beq_iff_eq.mpr U
 have D0 := bne_eq_false_iff_eq.mpr U
 clear U
 obtain rfl := z5 H
 rotate_left
 rw [if_neg U] at H
 have C0 := beq_eq_false_iff_ne.mpr U
 have D0 := bne_iff_ne.mpr U
 replace H := z6 H
 obtain ⟨T, B0, H⟩ := H
 have A6 := zK B0
 clear B0
 obtain rfl := z5 H
 all_goals go_enter Try.func43, Try.ntmps43
 all_goals go_wp2_with (first | ((with_reducible refine gd 2 rfl ?_); (try (refine gate_guard (by rfl) ?_; dsimp only)); refine zJ 2 #[.slice B a.length D, .slice E l.length I, .int .i64 x, .int .i64 z, .slice J q.length L, .bool A, .slice M u.length O] 79 ?_; intro d1 hg w7 hbox hb; have j0 := z8 hb; have l0 := zK (hbox); have m0 := z9 hg; have F0 := z9 hg; revert j0 l0 m0 F0; clear HB; intro HB y e1 f1; clear hb hbox hg; obtain ⟨G0, I0, J0, L0, M0, N0, O0, R0, S0, T0, U0, V0, X0, b1⟩ := zc7 y) | (go_at_call 63; (with_reducible refine (spec_l11Uses.calls k _ _ a _ _ l x z _ _ q A _ _ u a1 T _ ?side1 ?side2 ?side3 ?side4 ?side5 ?side6 ?side7 ?side8 A6.out).mono ?_); (case side1 => exact zS n0); (case side2 => exact o0.out); (case side3 => exact zS p0); (case side4 => exact q0.out); (case side5 => exact zS s0); (case side6 => exact t0.out); (case side7 => exact zS x0); (case side8 => exact y0.out); rintro e w9 ⟨v191, rfl, c1, hb⟩; have j0 := zK (Kd.R_lower c1 (zz zB)); have l0 := z7 y hb; have m0 := z8 hb; revert j0 l0 m0; clear y HB; intro A0 y HB; obtain ⟨j1, l1, E0⟩ := Kd.R_slice A0.out; subst E0))
 all_goals go_ret
 all_goals exact ⟨zE, zB⟩
def spec_l12Given.l0 : Nat → Int → Int → List Int → List Int → List (S71) → List (S79) → List Int → Option (Bool)
 | 0, _, _, _, _, _, _, _ => none
 | k + 1, z, y, q, l, a, u, x => if y < (a.length : Int) then (if 0 ≤ y then (if ((rd_T71 a y).f0) = z then (some true) else (spec_l12Given.l0 k z (wrap64 (y + 1)) q l a u x)) else (none)) else ((spec_l7Has.f k l z).bind fun A => (some A))
def spec_l12Given.f (k : Nat) (a : List Int) (l : List Int) (q : List (S71)) (u : List (S79)) (x : List Int) (y : Int) : Option (Bool) := spec_l12Given.l0 k y 0 a l q u x
theorem spec_l12Given.calls (k) (O) (T) (A : List Int) (L) (M) (q : List Int) (U) (X) (a : List (S71)) (a0) (b0) (B : List (S79)) (c0) (d0) (D : List Int) (a1) (r : Bool) (w) (j0 : Kd.C (Kd.int .i64) w O A.length A) (m0 : A.length ≤ T) (n0 : Kd.C (Kd.int .i64) w L q.length q) (o0 : q.length ≤ M) (p0 : Kd.C k71 w U a.length a) (q0 : a.length ≤ X) (s0 : Kd.C k79 w a0 B.length B) (t0 : B.length ≤ b0) (x0 : Kd.C (Kd.int .i64) w c0 D.length D) (y0 : D.length ≤ d0) (h : spec_l12Given.f k A q a B D a1 = some r) :
 Calls Try.prog 44 #[.agg #[.slice O A.length T, .slice L q.length M, .slice U a.length X, .slice a0 B.length b0, .slice c0 D.length d0], .int .i64 a1] w fun e w' => e = .returned (.bool r) ∧ Below w.heap.size w w' := by
 have e2 := Try.underlying34
 have S1 := zK j0
 have T1 := zK m0
 clear j0 m0
 have G0 := zK n0
 have I0 := zK o0
 clear n0 o0
 have A0 := zK p0
 have U1 := zK q0
 clear p0 q0
 have V1 := zK s0
 have X1 := zK t0
 clear s0 t0
 have a2 := zK x0
 have b2 := zK y0
 clear x0 y0
 have HB := zK (Below.refl w.heap.size w)
 have H : (spec_l12Given.l0 k a1 0 A q a B D) = some r := h
 clear h
 have H' := zK H
 clear H
 go_enter Try.func44, Try.ntmps44
 go_wp2_with (first | ((with_reducible refine gd 2 rfl ?_); refine zJ 2 #[.slice O A.length T, .slice L q.length M, .slice U a.length X, .slice a0 B.length b0, .slice c0 D.length d0] 34 ?_; intro J0 hg w3 hbox hb; have l1 := z8 hb; have m1 := zK (hbox); have n1 := z9 hg; have o1 := z9 hg; revert l1 m1 n1 o1; clear HB; intro HB E c2 d2; clear hb hbox hg))
 go_loopg [5] k (fun kq v5 w' => ∃ (l : Int), v5 = .int .i64 l ∧ Aside0 (spec_l12Given.l0 kq a1 l A q a B D = some r) ∧ Aside0 (kq ≤ k) ∧ Aside0 (w'.heap[J0]? = some (.cells #[(.slice O A.length T), (.slice L q.length M), (.slice U a.length X), (.slice a0 B.length b0), (.slice c0 D.length d0)] 34 (0, 0))) ∧ Aside0 (Below w.heap.size w w'))
 case atStart => exact ⟨(0), zR, H', ⟨Nat.le_refl _⟩, ⟨zM E⟩, ⟨zB⟩⟩
 clear H'
 try clear p2
 obtain ⟨l, rfl, HA, N0, E, HB⟩ := hrel
 rcases gk with _ | k1
 · exact absurd HA.out (by simp [spec_l12Given.l0])
 have H := HA.out
 clear HA
 simp only [spec_l12Given.l0] at H
 by_cases c4 : l < (a.length : Int)
 rotate_left
 · rw [if_neg c4] at H
   have R0 := z2 c4
   clear c4
   replace H := z6 H
   obtain ⟨S0, O0, H⟩ := H
   have A9 := zK O0
   clear O0
   obtain rfl := z5 H
   obtain ⟨V0, X0, b1, c1, d1, e1, f1, g1, i1, j1⟩ := zc5 E
   go_wp2_with (first | ((with_reducible refine gc 39 rfl ?_); refine zF 24 Try.func39 #[.slice L q.length M, .int .i64 a1] rfl zL ?_; refine (spec_l7Has.calls k1 _ _ q a1 S0 _ (zS G0) I0.out A9.out).mono ?_; rintro e w' ⟨rfl, ⟨nd, rfl⟩⟩; refine ⟨_, rfl, ?_⟩))
   go_ret
   exact ⟨zE, zB⟩
 rw [if_pos c4] at H
 have R0 := z1 c4
 clear c4
 by_cases c5 : 0 ≤ l
 rotate_left
 · rw [if_neg c5] at H
   exact absurd H (by simp)
 rw [if_pos c5] at H
 have g2 := z1 c5
 clear c5
 by_cases c6 : ((rd_T71 a l).f0) = a1
 · rw [if_pos c6] at H
   have T0 := beq_iff_eq.mpr c6
   have U0 := bne_eq_false_iff_eq.mpr c6
   clear c6
   obtain rfl := z5 H
   obtain ⟨p1, q1, s1, t1, x1, y1, A1, B1, C1, D1⟩ := zc5 E
   have I : 0 ≤ (l : Int) := z3
   have J : l < (a.length : Int) := z3
   obtain ⟨M0, E0, F0, i0, u, x, y, z⟩ := at_T71 A0.out l I J
   cases i0
   (try replace u := zX HB u)
   (try replace x := zX HB x)
   have C0 := zK z
   have D0 := zK y
   clear z y
   replace I := eq_true I
   replace J := eq_true J
   go_wp2
   go_ret
   exact ⟨zE, zB⟩
 rw [if_neg c6] at H
 have T0 := beq_eq_false_iff_ne.mpr c6
 have U0 := bne_iff_ne.mpr c6
 have H' := zK H
 clear H
 obtain ⟨E1, F1, G1, I1, J1, L1, M1, N1, O1, R1⟩ := zc5 E
 have I : 0 ≤ (l : Int) := z3
 have J : l < (a.length : Int) := z3
 obtain ⟨M0, E0, F0, i0, u, x, y, z⟩ := at_T71 A0.out l I J
 cases i0
 (try replace u := zX HB u)
 (try replace x := zX HB x)
 have C0 := zK z
 have D0 := zK y
 clear z y
 replace I := eq_true I
 replace J := eq_true J
 go_wp2
 go_roundg k1
 case measure => have := N0.out; omega
 case rel => exact ⟨(wrap64 (l + 1)), zR, H', ⟨by have := N0.out; omega⟩, ⟨zM E⟩, ⟨zB⟩⟩
end Go.Proofs.Ytmcboiffbcnalaa.PFnExactPlanOk
