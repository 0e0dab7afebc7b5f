-- Printed out of the translation by this session's own turned copy of a printer; Lean checks it.
import Derived.Test.YtmcboiffbcnalaaPFnExactLivesx0
import Derived.Test.YtmcboiffbcnalaaPFnExactLivesx2
namespace Go.Proofs.Ytmcboiffbcnalaa.PFnExactLives
open Go.RowKit Go.Proofs.YtmcboiffbcnalaaW.PrintWords Go.Proofs.YtmcboiffbcnalaaW.PrintLast Go.Proofs.YtmcboiffbcnalaaW.PrintMore
attribute [local go_sem] max2_int min2_int max_two min_two max_three min_three max_four min_four
set_option linter.unusedVariables false
set_option linter.unusedSimpArgs false
set_option maxHeartbeats 8000000
set_option maxRecDepth 100000
def spec_l11Uses.l0 : Nat → Int → List Int → Int → List Int → List (S76) → Int → Int → List Int → Bool → List (S122) → Option (List Int)
 | 0, _, _, _, _, _, _, _, _, _, _ => none
 | k + 1, J, I, E, q, l, u, y, z, A, B => if E < (l.length : Int) then (if 0 ≤ E then (if ((rd_T76 l E).f0) = J then (if I.length < 17592186044416 then (spec_l11Uses.l0 k J (I ++ [E]) (wrap64 (E + 1)) q l u y z A B) else (none)) else (spec_l11Uses.l0 k J I (wrap64 (E + 1)) q l u y z A B)) else (none)) else (some I)
def spec_l11Uses.f (k : Nat) (l : List Int) (q : List (S76)) (u : Int) (y : Int) (z : List Int) (A : Bool) (B : List (S122)) (E : Int) : Option (List Int) := spec_l11Uses.l0 k E (([] : List Int)) 0 l q u y z A B
theorem spec_l11Uses.calls (k) (g0) (i0) (y : List Int) (j0) (m0) (u : List (S76)) (M) (O) (n0) (o0) (z : List Int) (T : Bool) (p0) (q0) (A : List (S122)) (a1) (r : List Int) (w) (D0 : Kd.C (Kd.int .i64) w g0 y.length y) (E0 : y.length ≤ i0) (F0 : Kd.C k76 w j0 u.length u) (G0 : u.length ≤ m0) (I0 : Kd.C (Kd.int .i64) w n0 z.length z) (J0 : z.length ≤ o0) (L0 : Kd.C k122 w p0 A.length A) (M0 : A.length ≤ q0) (h : spec_l11Uses.f k y u M O z T A a1 = some r) :
 Calls Try.prog 63 #[.agg #[.slice g0 y.length i0, .slice j0 u.length m0, .int .i64 M, .int .i64 O, .slice n0 z.length o0, .bool T, .slice p0 A.length q0], .int .i64 a1] w fun e w' => ∃ v0_ : Value, e = .returned (v0_) ∧ Kd.R (Kd.int .i64) 3 w' w.heap.size (fun _ => True) v0_ r ∧ Below w.heap.size w w' := by
 have I2 := Try.underlying79
 have x2 := zK D0
 have y2 := zK E0
 clear D0 E0
 have N0 := zK F0
 have A2 := zK G0
 clear F0 G0
 have B2 := zK I0
 have C2 := zK J0
 clear I0 J0
 have D2 := zK L0
 have E2 := zK M0
 clear L0 M0
 have HB := zK (Below.refl w.heap.size w)
 have H : (spec_l11Uses.l0 k a1 (([] : List Int)) 0 y u M O z T A) = some r := h
 clear h
 obtain ⟨U0, b0⟩ : ∃ y_ : List Int, y_ = (([] : List Int)) := ⟨_, rfl⟩
 replace H : (spec_l11Uses.l0 k a1 U0 0 y u M O z T A) = some r := by first | (rw [b0]; with_reducible exact H) | (have d0 := (Option.bind_some _ _).symm.trans H; rw [b0]; with_reducible exact d0) | (have d0 := (Option.bind_some _ _).symm.trans H; with_reducible exact d0) | with_reducible exact H | (rw [b0]; exact H) | exact H
 have Ny179 := zK b0
 clear b0
 have H' := zK H
 clear H
 go_enter Try.func63, Try.ntmps63
 go_wp2_with (first | ((with_reducible refine gd 2 rfl ?_); refine zJ 2 #[.slice g0 y.length i0, .slice j0 u.length m0, .int .i64 M, .int .i64 O, .slice n0 z.length o0, .bool T, .slice p0 A.length q0] 79 ?_; intro c1 hg w3 hbox hb; have s0 := z8 hb; have t0 := zK (hbox); have x0 := z9 hg; have t2 := z9 hg; revert s0 t0 x0 t2; clear HB; intro HB q F2 G2; clear hb hbox hg) | ((with_reducible refine gd 7 rfl ?_); refine Kd.R_lit (Kd.int .i64) _ 3 ?hg (N := 7) ?hd (xs := ([] : List Int)) (inner := []) (ok := fun _ => True) (okp := fun _ => True) ?hr ?hp (fun _ hk => hk) trivial (Below.refl _ _) (Nat.le_refl _) (by simp) ?_; (case hd => rfl); (case hg => rfl); (case hr => first | (go_simp; done) | (go_simp; rfl)); (case hp => exact (Reps.none _ _)); intro v180 w4 y0 hb hg_ hnew_; clear hg_ hnew_; (first | rw [← Ny179.out] at y0 | (simp only [Int.reduceToNat] at y0; rw [← Ny179.out] at y0)); have s0 := zK (Kd.R_lower y0 (zz zB)); have t0 := z7 q hb; have x0 := z8 hb; revert s0 t0 x0; clear q HB; intro d1 q HB; clear hb y0))
 go_loopg [5, 6] k (fun kq v5 v6 w' => ∃ (U : List Int) (l : Int), v6 = .int .i64 l ∧ Aside0 (spec_l11Uses.l0 kq a1 U l y u M O z T A = some r) ∧ Aside0 (kq ≤ k) ∧ Aside0 (Kd.R (Kd.int .i64) 3 w' w.heap.size (fun _ => True) v5 U) ∧ Aside0 (w'.heap[c1]? = some (.cells #[(.slice g0 y.length i0), (.slice j0 u.length m0), .int .i64 M, .int .i64 O, (.slice n0 z.length o0), .bool T, (.slice p0 A.length q0)] 79 (0, 0))) ∧ Aside0 (Below w.heap.size w w'))
 case atStart => exact ⟨(U0), (0), zR, H', ⟨Nat.le_refl _⟩, ⟨zkR d1⟩, ⟨zM q⟩, ⟨zB⟩⟩
 clear H'
 try clear p2
 obtain ⟨U, l, rfl, HA, O0, e0, q, HB⟩ := hrel
 rcases gk with _ | k1
 · exact absurd HA.out (by simp [spec_l11Uses.l0])
 have H := HA.out
 clear HA
 simp only [spec_l11Uses.l0] at H
 by_cases c6 : l < (u.length : Int)
 rotate_left
 · rw [if_neg c6] at H
   have j1 := z2 c6
   clear c6
   obtain rfl := z5 H
   obtain ⟨n1, o1, p1, q1, s1, t1, x1, y1, A1, B1, C1, D1, E1, F1⟩ := zc7 q
   go_wp2
   go_ret
   exact ⟨_, zE, zkR e0, zB⟩
 rw [if_pos c6] at H
 have j1 := z1 c6
 clear c6
 by_cases c7 : 0 ≤ l
 rotate_left
 · rw [if_neg c7] at H
   exact absurd H (by simp)
 rw [if_pos c7] at H
 have J2 := z1 c7
 clear c7
 by_cases c8 : ((rd_T76 u l).f0) = a1
 rotate_left
 · rw [if_neg c8] at H
   have l1 := beq_eq_false_iff_ne.mpr c8
   have m1 := bne_iff_ne.mpr c8
   have H' := zK H
   clear H
   obtain ⟨G1, I1, J1, L1, M1, N1, O1, R1, S1, T1, U1, V1, X1, a2⟩ := zc7 q
   have X : 0 ≤ (l : Int) := z3
   have a0 : l < (u.length : Int) := z3
   obtain ⟨f1, V0, X0, C0, B, E, I, J, L⟩ := at_T76 N0.out l X a0
   cases C0
   (try replace B := zX HB B)
   (try replace E := zX HB E)
   (try replace I := zX HB I)
   have S0 := zK L
   have T0 := zK J
   clear L J
   replace X := eq_true X
   replace a0 := eq_true a0
   go_wp2
   go_roundg k1
   case measure => have := O0.out; omega
   case rel => exact ⟨(U), (wrap64 (l + 1)), zR, H', ⟨by have := O0.out; omega⟩, ⟨zkR e0⟩, ⟨zM q⟩, ⟨zB⟩⟩
 rw [if_pos c8] at H
 have l1 := beq_iff_eq.mpr c8
 have m1 := bne_eq_false_iff_eq.mpr c8
 clear c8
 by_cases c9 : U.length < 17592186044416
 rotate_left
 · rw [if_neg c9] at H
   exact absurd H (by simp)
 rw [if_pos c9] at H
 have LMc9 := zK c9
 clear c9
 obtain ⟨b1, c0⟩ : ∃ y_ : List Int, y_ = (U ++ [l]) := ⟨_, rfl⟩
 replace H : (spec_l11Uses.l0 k1 a1 b1 (wrap64 (l + 1)) y u M O z T A) = some r := by first | (rw [c0]; with_reducible exact H) | (have d0 := (Option.bind_some _ _).symm.trans H; rw [c0]; with_reducible exact d0) | (have d0 := (Option.bind_some _ _).symm.trans H; with_reducible exact d0) | with_reducible exact H | (rw [c0]; exact H) | exact H
 have Ny183 := zK c0
 clear c0
 have H' := zK H
 clear H
 obtain ⟨b2, c2, d2, e2, f2, g2, i2, j2, l2, m2, n2, o2, q2, s2⟩ := zc7 q
 have X : 0 ≤ (l : Int) := z3
 have a0 : l < (u.length : Int) := z3
 obtain ⟨f1, V0, X0, C0, B, E, I, J, L⟩ := at_T76 N0.out l X a0
 cases C0
 (try replace B := zX HB B)
 (try replace E := zX HB E)
 (try replace I := zX HB I)
 have S0 := zK L
 have T0 := zK J
 clear L J
 replace X := eq_true X
 replace a0 := eq_true a0
 go_wp2_with (first | ((with_reducible refine gate_builtin (b := .append) (xs := #[.tmp 23, .tmp 25]) rfl ?_); at_builtin; refine Kd.R_append (Kd.int .i64) (w0 := w) w.heap.size rfl (.tmp 23) (.tmp 25) 22 3 (.int .i64 0) 8 rfl Try.underlying22 info3 rfl (by decide) (by omega) u5 U l [.int .i64 l] (fun _ => True) (fun _ => False) rfl rfl ?aP (fun _ hk => hk.elim) ?aF ?aO ?aB ?aS ?aL ?_; (case aP => exact rfl); (case aB => exact zB); (case aF => exact (fun _ _ => trivial)); (case aO => exact (zkR e0)); (case aS => exact (zz zB)); (case aL => have := LMc9.out; omega); intro v184 L2 ho hb hg hat; rw [← Ny183.out] at ho; have s0 := zK (blk_grown (zM q) hg (Kd.R_ne e0.out q.out (by decide))); have t0 := zK (hb); have x0 := zK (ho); revert s0 t0 x0; clear q HB e0; intro q HB i1; clear ho hb hg hat))
 go_roundg k1
 case measure => have := O0.out; omega
 case rel => exact ⟨(b1), (wrap64 (l + 1)), zR, H', ⟨by have := O0.out; omega⟩, ⟨zkR i1⟩, ⟨zM q⟩, ⟨zB⟩⟩
def spec_l12Touches.f (k : Nat) (q : List Int) (u : List (S76)) (l : Int) (y : Int) (z : List Int) (A : Bool) (B : List (S122)) (I : Int) : Option (Bool) := if l = I then (some true) else ((spec_l11Uses.f k q u l y z A B I).bind fun E => (some (decide ((E.length : Int) > 0))))
theorem spec_l12Touches.calls (k) (I) (J) (l : List Int) (L) (M) (q : List (S76)) (z) (B) (O) (T) (u : List Int) (E : Bool) (U) (X) (y : List (S122)) (a1) (r : Bool) (w) (c0 : Kd.C (Kd.int .i64) w I l.length l) (d0 : l.length ≤ J) (e0 : Kd.C k76 w L q.length q) (f0 : q.length ≤ M) (g0 : Kd.C (Kd.int .i64) w O u.length u) (i0 : u.length ≤ T) (j0 : Kd.C k122 w U y.length y) (l0 : y.length ≤ X) (h : spec_l12Touches.f k l q z B u E y a1 = some r) :
 Calls Try.prog 43 #[.agg #[.slice I l.length J, .slice L q.length M, .int .i64 z, .int .i64 B, .slice O u.length T, .bool E, .slice U y.length X], .int .i64 a1] w fun e w' => e = .returned (.bool r) ∧ Below w.heap.size w w' := by
 have l1 := Try.underlying79
 have q0 := zK c0
 have s0 := zK d0
 clear c0 d0
 have t0 := zK e0
 have x0 := zK f0
 clear e0 f0
 have y0 := zK g0
 have A0 := zK i0
 clear g0 i0
 have B0 := zK j0
 have C0 := zK l0
 clear j0 l0
 have HB := zK (Below.refl w.heap.size w)
 have H : (if z = a1 then (some true) else ((spec_l11Uses.f k l q z B u E y a1).bind fun a0 => (some (decide ((a0.length : Int) > 0))))) = some r := h
 clear h
 by_cases c3 : z = a1
 rw [if_pos c3] at H
 have F0 := beq_iff_eq.mpr c3
 have G0 := bne_eq_false_iff_eq.mpr c3
 clear c3
 obtain rfl := z5 H
 rotate_left
 rw [if_neg c3] at H
 have F0 := beq_eq_false_iff_ne.mpr c3
 have G0 := bne_iff_ne.mpr c3
 replace H := z6 H
 obtain ⟨a0, E0, H⟩ := H
 have A6 := zK E0
 clear E0
 obtain rfl := z5 H
 all_goals go_enter Try.func43, Try.ntmps43
 all_goals go_wp2_with (first | ((with_reducible refine gd 2 rfl ?_); (try (refine gate_guard (by rfl) ?_; dsimp only)); refine zJ 2 #[.slice I l.length J, .slice L q.length M, .int .i64 z, .int .i64 B, .slice O u.length T, .bool E, .slice U y.length X] 79 ?_; intro g1 hg w7 hbox hb; have n0 := z8 hb; have o0 := zK (hbox); have p0 := z9 hg; have J0 := z9 hg; revert n0 o0 p0 J0; clear HB; intro HB A i1 j1; clear hb hbox hg; obtain ⟨L0, M0, N0, O0, R0, S0, T0, U0, V0, X0, b1, c1, d1, e1⟩ := zc7 A) | (go_at_call 63; (with_reducible refine (spec_l11Uses.calls k _ _ l _ _ q z B _ _ u E _ _ y a1 a0 _ ?side1 ?side2 ?side3 ?side4 ?side5 ?side6 ?side7 ?side8 A6.out).mono ?_); (case side1 => exact zS q0); (case side2 => exact s0.out); (case side3 => exact zS t0); (case side4 => exact x0.out); (case side5 => exact zS y0); (case side6 => exact A0.out); (case side7 => exact zS B0); (case side8 => exact C0.out); rintro e w9 ⟨v188, rfl, f1, hb⟩; have n0 := zK (Kd.R_lower f1 (zz zB)); have o0 := z7 A hb; have p0 := z8 hb; revert n0 o0 p0; clear A HB; intro D0 A HB; obtain ⟨n1, o1, I0⟩ := Kd.R_slice D0.out; subst I0))
 all_goals go_ret
 all_goals exact ⟨zE, zB⟩
def spec_l12Given.l0 : Nat → Int → Int → List Int → List Int → List (S71) → List (S79) → List Int → Option (Bool)
 | 0, _, _, _, _, _, _, _ => none
 | k + 1, B, A, u, q, l, y, z => if A < (l.length : Int) then (if 0 ≤ A then (if ((rd_T71 l A).f0) = B then (some true) else (spec_l12Given.l0 k B (wrap64 (A + 1)) u q l y z)) else (none)) else ((spec_l7Has.f k q B).bind fun E => (some E))
def spec_l12Given.f (k : Nat) (l : List Int) (q : List Int) (u : List (S71)) (y : List (S79)) (z : List Int) (A : Int) : Option (Bool) := spec_l12Given.l0 k A 0 l q u y z
theorem spec_l12Given.calls (k) (X) (a0) (E : List Int) (T) (U) (u : List Int) (b0) (c0) (l : List (S71)) (d0) (e0) (I : List (S79)) (g0) (i0) (J : List Int) (a1) (r : Bool) (w) (o0 : Kd.C (Kd.int .i64) w X E.length E) (p0 : E.length ≤ a0) (q0 : Kd.C (Kd.int .i64) w T u.length u) (s0 : u.length ≤ U) (t0 : Kd.C k71 w b0 l.length l) (x0 : l.length ≤ c0) (y0 : Kd.C k79 w d0 I.length I) (A0 : I.length ≤ e0) (B0 : Kd.C (Kd.int .i64) w g0 J.length J) (C0 : J.length ≤ i0) (h : spec_l12Given.f k E u l I J a1 = some r) :
 Calls Try.prog 44 #[.agg #[.slice X E.length a0, .slice T u.length U, .slice b0 l.length c0, .slice d0 I.length e0, .slice g0 J.length i0], .int .i64 a1] w fun e w' => e = .returned (.bool r) ∧ Below w.heap.size w w' := by
 have i2 := Try.underlying34
 have V1 := zK o0
 have X1 := zK p0
 clear o0 p0
 have L0 := zK q0
 have M0 := zK s0
 clear q0 s0
 have D0 := zK t0
 have a2 := zK x0
 clear t0 x0
 have b2 := zK y0
 have c2 := zK A0
 clear y0 A0
 have d2 := zK B0
 have e2 := zK C0
 clear B0 C0
 have HB := zK (Below.refl w.heap.size w)
 have H : (spec_l12Given.l0 k a1 0 E u l I J) = some r := h
 clear h
 have H' := zK H
 clear H
 go_enter Try.func44, Try.ntmps44
 go_wp2_with (first | ((with_reducible refine gd 2 rfl ?_); refine zJ 2 #[.slice X E.length a0, .slice T u.length U, .slice b0 l.length c0, .slice d0 I.length e0, .slice g0 J.length i0] 34 ?_; intro N0 hg w3 hbox hb; have o1 := z8 hb; have p1 := zK (hbox); have q1 := z9 hg; have s1 := z9 hg; revert o1 p1 q1 s1; clear HB; intro HB L f2 g2; clear hb hbox hg))
 go_loopg [5] k (fun kq v5 w' => ∃ (q : Int), v5 = .int .i64 q ∧ Aside0 (spec_l12Given.l0 kq a1 q E u l I J = some r) ∧ Aside0 (kq ≤ k) ∧ Aside0 (w'.heap[N0]? = some (.cells #[(.slice X E.length a0), (.slice T u.length U), (.slice b0 l.length c0), (.slice d0 I.length e0), (.slice g0 J.length i0)] 34 (0, 0))) ∧ Aside0 (Below w.heap.size w w'))
 case atStart => exact ⟨(0), zR, H', ⟨Nat.le_refl _⟩, ⟨zM L⟩, ⟨zB⟩⟩
 clear H'
 try clear p2
 obtain ⟨q, rfl, HA, S0, L, HB⟩ := hrel
 rcases gk with _ | k1
 · exact absurd HA.out (by simp [spec_l12Given.l0])
 have H := HA.out
 clear HA
 simp only [spec_l12Given.l0] at H
 by_cases c4 : q < (l.length : Int)
 rotate_left
 · rw [if_neg c4] at H
   have U0 := z2 c4
   clear c4
   replace H := z6 H
   obtain ⟨V0, T0, H⟩ := H
   have A9 := zK T0
   clear T0
   obtain rfl := z5 H
   obtain ⟨c1, d1, e1, f1, g1, i1, j1, l1, m1, n1⟩ := zc5 L
   go_wp2_with (first | ((with_reducible refine gc 39 rfl ?_); refine zF 24 Try.func39 #[.slice T u.length U, .int .i64 a1] rfl zL ?_; refine (spec_l7Has.calls k1 _ _ u a1 V0 _ (zS L0) M0.out A9.out).mono ?_; rintro e w' ⟨rfl, ⟨nd, rfl⟩⟩; refine ⟨_, rfl, ?_⟩))
   go_ret
   exact ⟨zE, zB⟩
 rw [if_pos c4] at H
 have U0 := z1 c4
 clear c4
 by_cases c5 : 0 ≤ q
 rotate_left
 · rw [if_neg c5] at H
   exact absurd H (by simp)
 rw [if_pos c5] at H
 have l2 := z1 c5
 clear c5
 by_cases c6 : ((rd_T71 l q).f0) = a1
 · rw [if_pos c6] at H
   have X0 := beq_iff_eq.mpr c6
   have b1 := bne_eq_false_iff_eq.mpr c6
   clear c6
   obtain rfl := z5 H
   obtain ⟨t1, x1, y1, A1, B1, C1, D1, E1, F1, G1⟩ := zc5 L
   have M : 0 ≤ (q : Int) := z3
   have O : q < (l.length : Int) := z3
   obtain ⟨R0, I0, J0, n0, y, z, A, B⟩ := at_T71 D0.out q M O
   cases n0
   (try replace y := zX HB y)
   (try replace z := zX HB z)
   have F0 := zK B
   have G0 := zK A
   clear B A
   replace M := eq_true M
   replace O := eq_true O
   go_wp2
   go_ret
   exact ⟨zE, zB⟩
 rw [if_neg c6] at H
 have X0 := beq_eq_false_iff_ne.mpr c6
 have b1 := bne_iff_ne.mpr c6
 have H' := zK H
 clear H
 obtain ⟨I1, J1, L1, M1, N1, O1, R1, S1, T1, U1⟩ := zc5 L
 have M : 0 ≤ (q : Int) := z3
 have O : q < (l.length : Int) := z3
 obtain ⟨R0, I0, J0, n0, y, z, A, B⟩ := at_T71 D0.out q M O
 cases n0
 (try replace y := zX HB y)
 (try replace z := zX HB z)
 have F0 := zK B
 have G0 := zK A
 clear B A
 replace M := eq_true M
 replace O := eq_true O
 go_wp2
 go_roundg k1
 case measure => have := S0.out; omega
 case rel => exact ⟨(wrap64 (q + 1)), zR, H', ⟨by have := S0.out; omega⟩, ⟨zM L⟩, ⟨zB⟩⟩
end Go.Proofs.Ytmcboiffbcnalaa.PFnExactLives
