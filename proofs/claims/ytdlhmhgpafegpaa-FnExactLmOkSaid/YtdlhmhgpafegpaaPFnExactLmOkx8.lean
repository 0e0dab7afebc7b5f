-- Printed out of the translation by this session's own turned copy of a printer; Lean checks it.
import Derived.Test.YtdlhmhgpafegpaaPFnExactLmOkx0
import Derived.Test.YtdlhmhgpafegpaaPFnExactLmOkx1
import Derived.Test.YtdlhmhgpafegpaaPFnExactLmOkx2
import Derived.Test.YtdlhmhgpafegpaaPFnExactLmOkx3
import Derived.Test.YtdlhmhgpafegpaaPFnExactLmOkx6
import Derived.Test.YtdlhmhgpafegpaaPFnExactLmOkx7
namespace Go.Proofs.Ytdlhmhgpafegpaa.PFnExactLmOk
open Go.RowKit Go.Proofs.YtdlhmhgpafegpaaW.PrintWords Go.Proofs.YtdlhmhgpafegpaaW.PrintLast Go.Proofs.YtdlhmhgpafegpaaW.PrintMore
attribute [local go_sem] max2_int min2_int max_two min_two max_three min_three max_four min_four
set_option linter.unusedVariables false
set_option linter.unusedSimpArgs false
set_option maxHeartbeats 8000000
set_option maxRecDepth 100000
def laws_FnExactLmOk.f (k : Nat) (l : Int) (q : List (S71)) : Option (Bool) := (laws_szLm.f k l q 1048576).bind fun y => (if y < 0 then (some true) else ((laws_toLm.f k l q).bind fun u => ((spec_LmOk.f k u.1 u.2).bind fun z => ((laws_toLm.f k l q).bind fun a => ((impl_LmOk.f k a.1 a.2).bind fun A => (if (A != z) = true then (some false) else ((laws_toLm.f k l q).bind fun x => ((laws_eqLm.f k a.1 a.2 x.1 x.2).bind fun B => (if B = true then (some true) else (some false))))))))))
theorem laws_FnExactLmOk.calls (k) (y) (O) (T) (x : List (S71)) (r : Bool) (w) (C0 : Kd.C k71 w O x.length x) (D0 : x.length ≤ T) (h : laws_FnExactLmOk.f k y x = some r) :
 Calls Try.prog 3 #[.agg #[.int .i64 y, .slice O x.length T]] w fun e w' => e = .returned (.bool r) ∧ Below w.heap.size w w' := by
 have V2 := Try.underlying24
 have X2 := Try.underlying29
 have b0 := zK C0
 have c0 := zK D0
 clear C0 D0
 have HB := zK (Below.refl w.heap.size w)
 have H : ((laws_szLm.f k y x 1048576).bind fun t0 => (if t0 < 0 then (some true) else ((laws_toLm.f k y x).bind fun E0 => ((spec_LmOk.f k E0.1 E0.2).bind fun M => ((laws_toLm.f k y x).bind fun a0 => ((impl_LmOk.f k a0.1 a0.2).bind fun L => (if (L != M) = true then (some false) else ((laws_toLm.f k y x).bind fun d0 => ((laws_eqLm.f k a0.1 a0.2 d0.1 d0.2).bind fun e0 => (if e0 = true then (some true) else (some false))))))))))) = some r := h
 clear h
 replace H := z6 H
 obtain ⟨t0, i1, H⟩ := H
 have A2 := zK i1
 clear i1
 by_cases c3 : t0 < 0
 rw [if_pos c3] at H
 have q1 := z1 c3
 clear c3
 obtain rfl := z5 H
 rotate_left
 rw [if_neg c3] at H
 have q1 := z2 c3
 clear c3
 replace H := z6 H
 obtain ⟨⟨n0, f0⟩, j1, H⟩ := H
 replace H : ((spec_LmOk.f k n0 f0).bind fun M => ((laws_toLm.f k y x).bind fun a0 => ((impl_LmOk.f k a0.1 a0.2).bind fun L => (if (L != M) = true then (some false) else ((laws_toLm.f k y x).bind fun d0 => ((laws_eqLm.f k a0.1 a0.2 d0.1 d0.2).bind fun e0 => (if e0 = true then (some true) else (some false)))))))) = some r := H
 have A7 := zK j1
 clear j1
 replace H := z6 H
 obtain ⟨M, l1, H⟩ := H
 have A8 := zK l1
 clear l1
 replace H := z6 H
 obtain ⟨⟨I, E⟩, m1, H⟩ := H
 replace H : ((impl_LmOk.f k I E).bind fun L => (if (L != M) = true then (some false) else ((laws_toLm.f k y x).bind fun d0 => ((laws_eqLm.f k I E d0.1 d0.2).bind fun e0 => (if e0 = true then (some true) else (some false)))))) = some r := H
 have A9 := zK m1
 clear m1
 replace H := z6 H
 obtain ⟨L, I0, H⟩ := H
 have n1 := zK I0
 clear I0
 by_cases i0 : (L != M) = true
 rw [if_pos i0] at H
 have a1 : (L != M) = true := i0
 (try (have b1 : decide (L = M) = false := by simpa using i0))
 (try (have c1 : (L == M) = false := by simpa using i0))
 (try (have N2 : ¬ (L = M) := by simpa using i0))
 clear i0
 obtain rfl := z5 H
 rotate_left
 rw [if_neg i0] at H
 have a1 : (L != M) = false := by simpa using i0
 (try (have b1 : decide (L = M) = true := by simpa using i0))
 (try (have c1 : (L == M) = true := by simpa using i0))
 clear i0
 replace H := z6 H
 obtain ⟨⟨o0, p0⟩, J0, H⟩ := H
 replace H : ((laws_eqLm.f k I E o0 p0).bind fun e0 => (if e0 = true then (some true) else (some false))) = some r := H
 have o1 := zK J0
 clear J0
 replace H := z6 H
 obtain ⟨e0, L0, H⟩ := H
 have p1 := zK L0
 clear L0
 by_cases F0 : e0 = true
 · subst F0
   rw [if_pos rfl] at H
   obtain rfl := z5 H
   go_enter Try.func3, Try.ntmps3
   try go_wp2_with (first | ((with_reducible refine gd 1 rfl ?_); refine zJ 1 #[.int .i64 y, .slice O x.length T] 24 ?_; intro q0 hg a3 hbox hb; have z := z8 hb; have A := zK (hbox); have B := z9 hg; have D := z9 hg; revert z A B D; clear HB; intro HB a d1 e1; clear hb hbox hg; obtain ⟨L1, M1, N1, O1⟩ := zc2 a) | ((with_reducible refine gc 7 rfl ?_); refine zF 9 Try.func7 #[.agg #[.int .i64 y, .slice O x.length T], .int .i64 1048576] rfl zL ?_; refine (laws_szLm.calls k y _ _ x 1048576 t0 _ (zS b0) c0.out A2.out).mono ?_; rintro e b3 ⟨rfl, hb⟩; refine ⟨_, rfl, ?_⟩; have z := z7 a hb; have A := z8 hb; revert z A; clear a HB; intro a HB; obtain ⟨R1, S1, T1, U1⟩ := zc2 a) | ((with_reducible refine gc 9 rfl ?_); refine zF 13 Try.func9 #[.agg #[.int .i64 y, .slice O x.length T]] rfl zL ?_; refine (laws_toLm.calls k y _ _ x n0 f0 _ (zS b0) c0.out A7.out).mono ?_; rintro e d3 ⟨v207, rfl, U, hb⟩; refine ⟨_, rfl, ?_⟩; have z := zK (Kd.S_lower U (zz zB)); have A := z7 a hb; have B := z8 hb; revert z A B; clear a HB; intro l a HB; obtain ⟨M0, N0, t1⟩ := Kd.S_slice l.out; subst t1) | ((with_reducible refine gc 8 rfl ?_); refine zF 14 Try.func8 #[.agg #[.int .i64 n0, .slice M0 f0.length N0]] rfl zL ?_; refine (spec_LmOk.calls k n0 _ _ f0 M _ (zC (Kd.S_reads' l.out).2.2) ((Kd.S_reads' l.out).2.1) A8.out).mono ?_; rintro e e3 ⟨rfl, hb⟩; refine ⟨_, rfl, ?_⟩; have z := zK (Kd.S_below (zkS l) hb); have A := z7 a hb; have B := z8 hb; revert z A B; clear l a HB; intro l a HB; obtain ⟨V1, X1, a2, b2⟩ := zc2 a) | ((with_reducible refine gc 9 rfl ?_); refine zF 16 Try.func9 #[.agg #[.int .i64 y, .slice O x.length T]] rfl zL ?_; refine (laws_toLm.calls k y _ _ x I E _ (zS b0) c0.out A9.out).mono ?_; rintro e f3 ⟨v212, rfl, U, hb⟩; refine ⟨_, rfl, ?_⟩; have z := zK (Kd.S_elder' (zkS l) (Kd.S_base U) hb); have A := zK (Kd.S_lower (Kd.S_new' U (Kd.S_lt (zkS l))) (zz zB)); have B := z7 a hb; have D := z8 hb; revert z A B D; clear l a HB; intro l u a HB) | ((with_reducible refine gd 5 rfl ?_); refine zJ 5 #[.int .i64 0, .slice none 0 0] 29 ?_; intro g0 hg g3 hbox hb; have z := zK (Kd.S_below (zkS l) hb); have A := zK (Kd.S_below (zkS u) hb); have B := z7 a hb; have D := z8 hb; have X := zK (hbox); have j0 := z9 hg; have O0 := z9 hg; have R0 := zHH hg a; have S0 := zGG hg a; revert z A B D X j0 O0 R0 S0; clear l u a HB; intro l u a HB q f1 g1 l0 m0; clear hb hbox hg; have O2 := m0.out; have R2 := l0.out; obtain ⟨c2, d2, e2, f2⟩ := zc2 q; obtain ⟨A0, x0, x1⟩ := Kd.S_slice u.out; subst x1) | ((with_reducible refine gc 10 rfl ?_); refine zF 18 Try.func10 #[.agg #[.int .i64 I, .slice A0 E.length x0]] rfl zL ?_; (with_reducible refine (impl_LmOk.calls k I _ _ E L _ ?side1 ?side2 n1.out).mono ?_); (case side1 => refine (Kd.S_reads' (e := 57) (base := w.heap.size) (ok := fun k_ => (True ∧ some k_ ≠ (.slice M0 f0.length N0 : Value).ownBlock)) (n := E.length) (c := x0) ?_).2.2; exact (Kd.S_mono (zlS (Kd.S_types u.out q.out (by decide))) (fun _ h_ => h_.1))); (case side2 => exact (Kd.S_reads' u.out).2.1); rintro e L2 ⟨rfl, hb⟩; refine ⟨_, rfl, ?_⟩; have z := zK (Kd.S_below (Kd.S_mono (zlS (Kd.S_types l.out q.out (by decide))) (fun _ h_ => h_.1)) hb); have A := zK (Kd.S_below (Kd.S_mono (zlS (Kd.S_types u.out q.out (by decide))) (fun _ h_ => h_.1)) hb); have B := zK (zg (zV a) hb); have D := zK (zg (g := g0) (o := .cells #[.int .i64 I, .slice A0 E.length x0] 29 (0, 0)) (zW q) hb); have X := z8 hb; revert z A B D X; clear l u a q HB; intro l u a q HB))
   have z := zK (Kd.S_drew l.out)
   have A := zK (Kd.S_drew u.out)
   have B := zK (zd a.out)
   have D := zK (zd q.out)
   have X := zK (ze HB.out)
   revert z A B D X
   clear l u a q HB
   intro l u a q HB
   refine start_ (n := 5) (S := fun w' => w'.cell? ⟨g0, 0, none⟩ = some (.int .i64 I) ∧ w'.cell? ⟨g0, 1, none⟩ = some (.slice A0 E.length x0) ∧ w'.cell? ⟨q0, 0, none⟩ = some (.int .i64 y) ∧ w'.cell? ⟨q0, 1, none⟩ = some (.slice O x.length T)) (ds := []) (bl 5 0) (by kernel_rfl) rfl (by kernel_rfl) ⟨zy q 0, zy q 1, zy a 0, zy a 1⟩ (fun hHeld => ?_)
   generalize L2.drew = i3 at l u a q HB hHeld ⊢
   refine take_ (i := 0) (N := some 22) (v := ?_) (a' := ?_) (bl 5 1) rfl rfl (by kernel_rfl) (fun _ _ _ h => h) (Or.inl ⟨by rfl, ?_⟩) hHeld ?_ ?_
   rotate_left
   · rintro w' ⟨s0, s1, s2, s3⟩
     go_simp
     with_reducible rfl
   rotate_left
   · simp only [Act.put, zq1, zq2, zq3, i64_w, i32_w]
     rfl
   refine take_ (i := 1) (N := some 23) (v := ?_) (a' := ?_) (bl 5 3) rfl rfl (by kernel_rfl) (fun _ _ _ h => h) (Or.inl ⟨by rfl, ?_⟩) hHeld ?_ ?_
   rotate_left
   · rintro w' ⟨s0, s1, s2, s3⟩
     go_simp
     with_reducible rfl
   rotate_left
   · simp only [Act.put, zq1, zq2, zq3, i64_w, i32_w]
     rfl
   refine one_ (i := 2) (N := some 24) (bl 5 7) rfl rfl (by kernel_rfl) (by decide) (fun K hK => ?_)
   refine goes_ Try.func9 (by kernel_rfl) rfl #[.agg #[.int .i64 y, .slice O x.length T]] (by rfl) rfl rfl zL ?_
   refine (laws_toLm.calls k y _ _ x o0 p0 _ (zS b0) c0.out o1.out).mono ?_
   rintro e j3 ⟨v218, rfl, U, hb⟩
   refine ⟨_, rfl, ?_⟩
   have z := zK (Kd.S_elder' (zkS l) (Kd.S_base U) hb)
   have A := zK (Kd.S_elder' (zkS u) (Kd.S_base U) hb)
   have B := zK (Kd.S_lower (Kd.S_new' (Kd.S_new' U (Kd.S_lt (zkS l))) (Kd.S_lt (zkS u))) (zz zB))
   have D := z7 a hb
   have X := z7 q hb
   have j0 := z8 hb
   revert z A B D X j0
   clear l u a q HB
   intro l u J a q HB
   (try clear hb)
   (try clear hb2)
   (try clear hk)
   (try clear hi)
   (try clear U)
   obtain ⟨D1, E1, T0⟩ := Kd.S_slice J.out
   (first | subst T0 | (injection T0 with f1_ f2_ f3_; have f4_ := f1_.symm; have f5_ := f3_.symm; clear f1_ f2_ f3_; subst f4_; subst f5_))
   refine hK.out _ _ ⟨zy q 0, zy q 1, zy a 0, zy a 1⟩ (fun hHeld => ?_)
   clear hK K
   refine zU 24 ?_
   refine one_ (i := 3) (N := some 25) (bl 5 15) rfl rfl (by kernel_rfl) (by decide) (fun K hK => ?_)
   refine goes_ Try.func11 (by kernel_rfl) rfl #[.agg #[.int .i64 I, .slice A0 E.length x0], .agg #[.int .i64 o0, .slice D1 p0.length E1]] (by rfl) rfl rfl zL ?_
   refine (laws_eqLm.calls k I _ _ E o0 _ _ p0 true _ (zC (Kd.S_reads' u.out).2.2) ((Kd.S_reads' u.out).2.1) (zC (Kd.S_reads' J.out).2.2) ((Kd.S_reads' J.out).2.1) p1.out).mono ?_
   rintro e l3 ⟨rfl, hb⟩
   refine ⟨_, rfl, ?_⟩
   have z := zK (Kd.S_below (zkS l) hb)
   have A := zK (Kd.S_below (zkS u) hb)
   have B := zK (Kd.S_below (zkS J) hb)
   have D := z7 a hb
   have X := z7 q hb
   have j0 := z8 hb
   revert z A B D X j0
   clear l u J a q HB
   intro l u J a q HB
   (try clear hb)
   (try clear hb2)
   (try clear hk)
   (try clear hi)
   refine hK.out _ _ ⟨zy q 0, zy q 1, zy a 0, zy a 1⟩ (fun hHeld => ?_)
   clear hK K
   refine zU 25 ?_
   refine pure_ (i := 4) (N := some 26) (v := ?_) (a' := ?_) (bl 5 31) rfl rfl (by kernel_rfl) (fun _ _ _ h => h) (Or.inl ⟨by rfl, ?_⟩) ?_ ?_
   rotate_left
   · intro w'
     go_simp
     with_reducible rfl
   rotate_left
   · simp only [Act.put, zq1, zq2, zq3, i64_w, i32_w]
     rfl
   refine done_ (by kernel_rfl) ?_
   try go_wp2
   go_ret
   exact ⟨zE, zB⟩
 replace F0 := Bool.eq_false_iff.mpr F0
 subst F0
 rw [if_neg (show ¬ (false = true) by decide)] at H
 obtain rfl := z5 H
 all_goals go_enter Try.func3, Try.ntmps3
 all_goals try go_wp2_with (first | ((with_reducible refine gd 1 rfl ?_); refine zJ 1 #[.int .i64 y, .slice O x.length T] 24 ?_; intro q0 hg m3 hbox hb; have z := z8 hb; have A := zK (hbox); have B := z9 hg; have D := z9 hg; revert z A B D; clear HB; intro HB a d1 e1; clear hb hbox hg; obtain ⟨g2, i2, j2, l2⟩ := zc2 a) | ((with_reducible refine gc 7 rfl ?_); refine zF 9 Try.func7 #[.agg #[.int .i64 y, .slice O x.length T], .int .i64 1048576] rfl zL ?_; refine (laws_szLm.calls k y _ _ x 1048576 t0 _ (zS b0) c0.out A2.out).mono ?_; rintro e n3 ⟨rfl, hb⟩; refine ⟨_, rfl, ?_⟩; have z := z7 a hb; have A := z8 hb; revert z A; clear a HB; intro a HB; obtain ⟨m2, n2, o2, p2⟩ := zc2 a) | ((with_reducible refine gc 9 rfl ?_); refine zF 13 Try.func9 #[.agg #[.int .i64 y, .slice O x.length T]] rfl zL ?_; refine (laws_toLm.calls k y _ _ x n0 f0 _ (zS b0) c0.out A7.out).mono ?_; rintro e o3 ⟨v207, rfl, U, hb⟩; refine ⟨_, rfl, ?_⟩; have z := zK (Kd.S_lower U (zz zB)); have A := z7 a hb; have B := z8 hb; revert z A B; clear a HB; intro l a HB; obtain ⟨U0, V0, F1⟩ := Kd.S_slice l.out; subst F1) | ((with_reducible refine gc 8 rfl ?_); refine zF 14 Try.func8 #[.agg #[.int .i64 n0, .slice U0 f0.length V0]] rfl zL ?_; refine (spec_LmOk.calls k n0 _ _ f0 M _ (zC (Kd.S_reads' l.out).2.2) ((Kd.S_reads' l.out).2.1) A8.out).mono ?_; rintro e p3 ⟨rfl, hb⟩; refine ⟨_, rfl, ?_⟩; have z := zK (Kd.S_below (zkS l) hb); have A := z7 a hb; have B := z8 hb; revert z A B; clear l a HB; intro l a HB; obtain ⟨q2, t2, x2, y2⟩ := zc2 a) | ((with_reducible refine gc 9 rfl ?_); refine zF 16 Try.func9 #[.agg #[.int .i64 y, .slice O x.length T]] rfl zL ?_; refine (laws_toLm.calls k y _ _ x I E _ (zS b0) c0.out A9.out).mono ?_; rintro e q3 ⟨v212, rfl, U, hb⟩; refine ⟨_, rfl, ?_⟩; have z := zK (Kd.S_elder' (zkS l) (Kd.S_base U) hb); have A := zK (Kd.S_lower (Kd.S_new' U (Kd.S_lt (zkS l))) (zz zB)); have B := z7 a hb; have D := z8 hb; revert z A B D; clear l a HB; intro l u a HB) | ((with_reducible refine gd 5 rfl ?_); refine zJ 5 #[.int .i64 0, .slice none 0 0] 29 ?_; intro g0 hg t3 hbox hb; have z := zK (Kd.S_below (zkS l) hb); have A := zK (Kd.S_below (zkS u) hb); have B := z7 a hb; have D := z8 hb; have X := zK (hbox); have j0 := z9 hg; have O0 := z9 hg; have R0 := zHH hg a; have S0 := zGG hg a; revert z A B D X j0 O0 R0 S0; clear l u a HB; intro l u a HB q f1 g1 l0 m0; clear hb hbox hg; have T2 := m0.out; have U2 := l0.out; obtain ⟨B2, C2, D2, E2⟩ := zc2 q; obtain ⟨B0, y0, G1⟩ := Kd.S_slice u.out; subst G1) | ((with_reducible refine gc 10 rfl ?_); refine zF 18 Try.func10 #[.agg #[.int .i64 I, .slice B0 E.length y0]] rfl zL ?_; (with_reducible refine (impl_LmOk.calls k I _ _ E L _ ?side1 ?side2 n1.out).mono ?_); (case side1 => refine (Kd.S_reads' (e := 57) (base := w.heap.size) (ok := fun k_ => (True ∧ some k_ ≠ (.slice U0 f0.length V0 : Value).ownBlock)) (n := E.length) (c := y0) ?_).2.2; exact (Kd.S_mono (zlS (Kd.S_types u.out q.out (by decide))) (fun _ h_ => h_.1))); (case side2 => exact (Kd.S_reads' u.out).2.1); rintro e M2 ⟨rfl, hb⟩; refine ⟨_, rfl, ?_⟩; have z := zK (Kd.S_below (Kd.S_mono (zlS (Kd.S_types l.out q.out (by decide))) (fun _ h_ => h_.1)) hb); have A := zK (Kd.S_below (Kd.S_mono (zlS (Kd.S_types u.out q.out (by decide))) (fun _ h_ => h_.1)) hb); have B := zK (zg (zV a) hb); have D := zK (zg (g := g0) (o := .cells #[.int .i64 I, .slice B0 E.length y0] 29 (0, 0)) (zW q) hb); have X := z8 hb; revert z A B D X; clear l u a q HB; intro l u a q HB))
 · have z := zK (Kd.S_drew l.out)
   have A := zK (Kd.S_drew u.out)
   have B := zK (zd a.out)
   have D := zK (zd q.out)
   have X := zK (ze HB.out)
   revert z A B D X
   clear l u a q HB
   intro l u a q HB
   refine start_ (n := 5) (S := fun w' => w'.cell? ⟨g0, 0, none⟩ = some (.int .i64 I) ∧ w'.cell? ⟨g0, 1, none⟩ = some (.slice B0 E.length y0) ∧ w'.cell? ⟨q0, 0, none⟩ = some (.int .i64 y) ∧ w'.cell? ⟨q0, 1, none⟩ = some (.slice O x.length T)) (ds := []) (bl 5 0) (by kernel_rfl) rfl (by kernel_rfl) ⟨zy q 0, zy q 1, zy a 0, zy a 1⟩ (fun hHeld => ?_)
   generalize M2.drew = x3 at l u a q HB hHeld ⊢
   refine take_ (i := 0) (N := some 22) (v := ?_) (a' := ?_) (bl 5 1) rfl rfl (by kernel_rfl) (fun _ _ _ h => h) (Or.inl ⟨by rfl, ?_⟩) hHeld ?_ ?_
   rotate_left
   · rintro w' ⟨s0, s1, s2, s3⟩
     go_simp
     with_reducible rfl
   rotate_left
   · simp only [Act.put, zq1, zq2, zq3, i64_w, i32_w]
     rfl
   refine take_ (i := 1) (N := some 23) (v := ?_) (a' := ?_) (bl 5 3) rfl rfl (by kernel_rfl) (fun _ _ _ h => h) (Or.inl ⟨by rfl, ?_⟩) hHeld ?_ ?_
   rotate_left
   · rintro w' ⟨s0, s1, s2, s3⟩
     go_simp
     with_reducible rfl
   rotate_left
   · simp only [Act.put, zq1, zq2, zq3, i64_w, i32_w]
     rfl
   refine one_ (i := 2) (N := some 24) (bl 5 7) rfl rfl (by kernel_rfl) (by decide) (fun K hK => ?_)
   refine goes_ Try.func9 (by kernel_rfl) rfl #[.agg #[.int .i64 y, .slice O x.length T]] (by rfl) rfl rfl zL ?_
   refine (laws_toLm.calls k y _ _ x o0 p0 _ (zS b0) c0.out o1.out).mono ?_
   rintro e y3 ⟨v218, rfl, U, hb⟩
   refine ⟨_, rfl, ?_⟩
   have z := zK (Kd.S_elder' (zkS l) (Kd.S_base U) hb)
   have A := zK (Kd.S_elder' (zkS u) (Kd.S_base U) hb)
   have B := zK (Kd.S_lower (Kd.S_new' (Kd.S_new' U (Kd.S_lt (zkS l))) (Kd.S_lt (zkS u))) (zz zB))
   have D := z7 a hb
   have X := z7 q hb
   have j0 := z8 hb
   revert z A B D X j0
   clear l u a q HB
   intro l u J a q HB
   (try clear hb)
   (try clear hb2)
   (try clear hk)
   (try clear hi)
   (try clear U)
   obtain ⟨I1, J1, X0⟩ := Kd.S_slice J.out
   (first | subst X0 | (injection X0 with f1_ f2_ f3_; have f4_ := f1_.symm; have f5_ := f3_.symm; clear f1_ f2_ f3_; subst f4_; subst f5_))
   refine hK.out _ _ ⟨zy q 0, zy q 1, zy a 0, zy a 1⟩ (fun hHeld => ?_)
   clear hK K
   refine zU 24 ?_
   refine one_ (i := 3) (N := some 25) (bl 5 15) rfl rfl (by kernel_rfl) (by decide) (fun K hK => ?_)
   refine goes_ Try.func11 (by kernel_rfl) rfl #[.agg #[.int .i64 I, .slice B0 E.length y0], .agg #[.int .i64 o0, .slice I1 p0.length J1]] (by rfl) rfl rfl zL ?_
   refine (laws_eqLm.calls k I _ _ E o0 _ _ p0 false _ (zC (Kd.S_reads' u.out).2.2) ((Kd.S_reads' u.out).2.1) (zC (Kd.S_reads' J.out).2.2) ((Kd.S_reads' J.out).2.1) p1.out).mono ?_
   rintro e A3 ⟨rfl, hb⟩
   refine ⟨_, rfl, ?_⟩
   have z := zK (Kd.S_below (zkS l) hb)
   have A := zK (Kd.S_below (zkS u) hb)
   have B := zK (Kd.S_below (zkS J) hb)
   have D := z7 a hb
   have X := z7 q hb
   have j0 := z8 hb
   revert z A B D X j0
   clear l u J a q HB
   intro l u J a q HB
   (try clear hb)
   (try clear hb2)
   (try clear hk)
   (try clear hi)
   refine hK.out _ _ ⟨zy q 0, zy q 1, zy a 0, zy a 1⟩ (fun hHeld => ?_)
   clear hK K
   refine zU 25 ?_
   refine pure_ (i := 4) (N := some 26) (v := ?_) (a' := ?_) (bl 5 31) rfl rfl (by kernel_rfl) (fun _ _ _ h => h) (Or.inl ⟨by rfl, ?_⟩) ?_ ?_
   rotate_left
   · intro w'
     go_simp
     with_reducible rfl
   rotate_left
   · simp only [Act.put, zq1, zq2, zq3, i64_w, i32_w]
     rfl
   refine done_ (by kernel_rfl) ?_
   try go_wp2
   go_ret
   exact ⟨zE, zB⟩
 all_goals go_ret
 all_goals exact ⟨zE, zB⟩
def WT71 (x : S71) : Prop := (x.f0.length ≤ maxLen ∧ ∀ a ∈ x.f0, (Lit.int .i64 a).wf = true) ∧ (x.f1.length ≤ maxLen ∧ ∀ a ∈ x.f1, (Lit.int .i64 a).wf = true)
def WT24 (x : S24) : Prop := (Lit.int .i64 x.f0).wf = true ∧ (x.f1.length ≤ maxLen ∧ ∀ a ∈ x.f1, WT71 a)
/-- THE ONE PURE STATEMENT of laws_FnExactLmOk: yours. -/
def laws_FnExactLmOk.Pure : Prop := ∀ (a : S24), WT24 a → ∃ k, laws_FnExactLmOk.f k a.f0 a.f1 = some true
theorem laws_FnExactLmOk.walk (P : laws_FnExactLmOk.Pure) (a : S24) (cs0 : Array Value) (w : World) (x : k24.K w a cs0.toList) (w0 : WT24 a) :
 Calls Try.prog 3 #[.agg cs0] w fun e w' => e = .returned (.bool true) ∧ Below w.heap.size w w' := by
 obtain ⟨k, h⟩ := P a w0
 obtain ⟨l, q, hcs0, u, g0_1⟩ := k24_open x
 obtain rfl : cs0 = #[.int .i64 a.f0, .slice l (a.f1).length q] := by cases cs0; simp_all
 refine (laws_FnExactLmOk.calls k a.f0 _ _ a.f1 true w g0_1 u h).mono ?_
 rintro e w' ⟨rfl, hd⟩
 exact ⟨rfl, hd⟩
end Go.Proofs.Ytdlhmhgpafegpaa.PFnExactLmOk
