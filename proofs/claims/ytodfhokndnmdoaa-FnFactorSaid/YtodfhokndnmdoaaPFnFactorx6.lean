-- Printed out of the translation by this session's own turned copy of a printer; Lean checks it.
import Derived.Test.YtodfhokndnmdoaaPFnFactorx0
import Derived.Test.YtodfhokndnmdoaaPFnFactorx5
namespace Go.Proofs.Ytodfhokndnmdoaa.PFnFactor
open Go.RowKit Go.Proofs.YtodfhokndnmdoaaW.PrintWords Go.Proofs.YtodfhokndnmdoaaW.PrintLast Go.Proofs.YtodfhokndnmdoaaW.PrintMore
attribute [local go_sem] max2_int min2_int max_two min_two max_three min_three max_four min_four
set_option linter.unusedVariables false
set_option linter.unusedSimpArgs false
set_option maxHeartbeats 8000000
set_option maxRecDepth 100000
def slices_Clone_int_int.f (l : List Int) : Option (List Int) := (some (([] : List Int) : List Int)).bind fun a => (if a.length + l.length < 17592186044416 then (some (a ++ l)) else (none))
theorem slices_Clone_int_int.calls_some (M) (T) (x : List Int) (r : List Int) (w) (J : Kd.C (Kd.int .i64) w M x.length x) (L : x.length ≤ T) (h : slices_Clone_int_int.f x = some r) (hA0 : M ≠ none) :
 Calls Try.prog 70 #[.slice M x.length T] w fun e w' => ∃ v0_ : Value, e = .returned (v0_) ∧ Kd.R (Kd.int .i64) 3 w' w.heap.size (fun _ => True) v0_ r ∧ Below w.heap.size w w' := by
 obtain ⟨X, rfl⟩ := Option.ne_none_iff_exists'.1 hA0
 clear hA0
 have hq := fun (w : World) (a : Option Addr) (n c n' c' : Nat) => Lib.run_eql_slice_nil w 26 3 a n c n' c' Try.underlying26
 have U := zK J
 have a0 := zK L
 clear J L
 have HB := zK (Below.refl w.heap.size w)
 have H : ((some (([] : List Int) : List Int)).bind fun l => (if l.length + x.length < 17592186044416 then (some (l ++ x)) else (none))) = some r := h
 clear h
 obtain ⟨l, q⟩ : ∃ y_ : List Int, y_ = (([] : List Int)) := ⟨_, rfl⟩
 replace H : (if l.length + x.length < 17592186044416 then (some (l ++ x)) else (none)) = some r := by first | (rw [q]; with_reducible exact H) | (have y := (Option.bind_some _ _).symm.trans H; rw [q]; with_reducible exact y) | (have y := (Option.bind_some _ _).symm.trans H; with_reducible exact y) | with_reducible exact H | (rw [q]; exact H) | exact H
 have Ny268 := zK q
 clear q
 by_cases E : l.length + x.length < 17592186044416
 rotate_left
 · rw [if_neg E] at H
   exact absurd H (by simp)
 rw [if_pos E] at H
 have LMc2 := zK E
 clear E
 obtain ⟨O, u⟩ : ∃ y_ : List Int, y_ = (l ++ x) := ⟨_, rfl⟩
 replace H : (some O) = some r := by first | (rw [u]; with_reducible exact H) | (have y := (Option.bind_some _ _).symm.trans H; rw [u]; with_reducible exact y) | (have y := (Option.bind_some _ _).symm.trans H; with_reducible exact y) | with_reducible exact H | (rw [u]; exact H) | exact H
 have Ny271 := zK u
 clear u
 obtain rfl := z5 H
 go_enter Try.func70, Try.ntmps70
 go_wp2_with (first | ((with_reducible refine gd 5 rfl ?_); refine Kd.R_lit (Kd.int .i64) _ 3 ?hg (N := 5) ?hd (xs := ([] : List Int)) (inner := []) (ok := fun _ => True) (okp := fun _ => True) ?hr ?hp (fun _ hk => hk) trivial (Below.refl _ _) (Nat.le_refl _) (by simp) ?_; (case hd => rfl); (case hg => rfl); (case hr => first | (go_simp; done) | (go_simp; rfl)); (case hp => exact (Reps.none _ _)); intro v269 w3 z hb hg_ hnew_; clear hg_ hnew_; (first | rw [← Ny268.out] at z | (simp only [Int.reduceToNat] at z; rw [← Ny268.out] at z)); have B := zK (Kd.R_lower z (zz zB)); have D := z8 hb; revert B D; clear HB; intro A HB; clear hb z) | ((with_reducible refine gate_builtin (b := .append) (xs := #[.tmp 5, .tmp 6]) rfl ?_); at_builtin; refine Kd.R_append_rows (Kd.int .i64) (w0 := w) w.heap.size rfl (.tmp 5) (.tmp 6) 26 3 (.int .i64 0) 8 rfl Try.underlying26 info3 rfl (by decide) (by omega) v269 l x _ _ _ (fun _ => True) (fun _ => False) rfl rfl ?aO ?aR (fun _ _ h => h) (fun _ h => h.elim) ?aF ?aB ?aS ?aL ?_; (case aR => exact zS U); (case aB => exact zB); (case aF => exact (fun _ _ => trivial)); (case aO => exact (zkR A)); (case aS => exact (zz zB)); (case aL => have := LMc2.out; omega); intro v272 w5 ho hb hg hat; rw [← Ny271.out] at ho; have B := zK (hb); have D := zK (ho); revert B D; clear HB A; intro HB I; clear ho hb hg hat))
 go_ret
 exact ⟨_, zE, zkR I, zB⟩
theorem slices_Clone_int_int.calls (u) (x) (l : List Int) (r : List Int) (w) (q : Kd.C (Kd.int .i64) w u l.length l) (z : l.length ≤ x) (h : slices_Clone_int_int.f l = some r) :
 Calls Try.prog 70 #[.slice u l.length x] w fun e w' => ∃ v0_ : Value, e = .returned (v0_) ∧ Kd.R (Kd.int .i64) 3 w' w.heap.size (fun _ => True) v0_ r ∧ Below w.heap.size w w' := by
 rcases u with _ | A
 · obtain rfl : l = [] := by
    rcases Nat.eq_zero_or_pos l.length with y | y
    · exact List.eq_nil_of_length_eq_zero y
    · obtain ⟨_, h1, _⟩ := (by first | exact q | exact (Kd.V_reads' B).2.2 : Kd.C (Kd.int .i64) w none l.length l).2.2 y
      cases h1
   obtain rfl : r = [] := by simp [slices_Clone_int_int.f] at h; first | exact h.symm | exact h
   have hq := fun (w : World) (a : Option Addr) (n c n' c' : Nat) => Lib.run_eql_slice_nil w 26 3 a n c n' c' Try.underlying26
   go_enter Try.func70, Try.ntmps70
   go_wp2
   go_ret
   exact ⟨_, rfl, (by first | exact Kd.R_nil _ _ _ _ _ | exact Kd.N_nil _ _ _ _ _ | exact Kd.V_nil _ _ _ _ _ | exact Kd.Q_nil _ _ _ _ _ | exact Kd.S_nil _ _ _ _ _), Below.refl _ _⟩
 · exact slices_Clone_int_int.calls_some (some A) x l r w q z h (by simp)
def impl_cloneOpt.f (a : List Int) (l : List Int) (q : List Int) (u : Int) (x : Int) (y : Int) : Option (List Int × List Int × List Int × Int × Int × Int) := (slices_Clone_int_int.f a).bind fun z => ((slices_Clone_int_int.f l).bind fun A => ((slices_Clone_int_int.f q).bind fun B => (some (z, A, B, u, x, y))))
def impl_cloneOpt.T1 : Bool × List (List Nat × List Nat) := (true, [([], []), ([0], [0]), ([1], [1]), ([], []), ([3], [3]), ([4, 2], [4]), ([], []), ([6], [6]), ([7, 5], [7]), ([], []), ([9], [9]), ([], []), ([11], [11]), ([], []), ([13], [13]), ([2, 5, 8, 10, 12, 14], [2, 5, 8, 10, 12, 14]), ([15, 8, 0, 1, 2, 3, 4, 5, 6, 7, 8, 9, 10, 11, 12, 13, 14, 15], [15])])
def impl_cloneOpt.B1 : List Nat := [0, 1, 3, 0, 8, 31, 0, 64, 255, 0, 512, 0, 2048, 0, 8192, 32767, 65535]
theorem impl_cloneOpt.tab1 : rtab .any (opsOf Try.f44 1) = impl_cloneOpt.T1 := by kernel_rfl
theorem impl_cloneOpt.bits1 : waitsOk impl_cloneOpt.T1.2 impl_cloneOpt.B1 = true := by kernel_rfl
theorem impl_cloneOpt.calls (a0) (b0) (z : List Int) (c0) (d0) (A : List Int) (e0) (f0) (B : List Int) (T) (U) (X) (r1 : List Int) (r2 : List Int) (r3 : List Int) (r4) (r5) (r6) (w) (n0 : Kd.C (Kd.int .i64) w a0 z.length z) (o0 : z.length ≤ b0) (p0 : Kd.C (Kd.int .i64) w c0 A.length A) (q0 : A.length ≤ d0) (t0 : Kd.C (Kd.int .i64) w e0 B.length B) (x0 : B.length ≤ f0) (h : impl_cloneOpt.f z A B T U X = some (r1, r2, r3, r4, r5, r6)) :
 Calls Try.prog 44 #[.agg #[.slice a0 z.length b0, .slice c0 A.length d0, .slice e0 B.length f0, .int .i64 T, .int .i64 U, .int .i64 X]] w fun e w' => ∃ v0_ v1_ v2_ : Value, e = .returned (.agg #[v0_, v1_, v2_, .int .i64 r4, .int .i64 r5, .int .i64 r6]) ∧ Kd.R (Kd.int .i64) 3 w' w.heap.size (fun k_ => some k_ ≠ (v1_ : Value).ownBlock ∧ some k_ ≠ (v2_ : Value).ownBlock) v0_ r1 ∧ Kd.R (Kd.int .i64) 3 w' w.heap.size (fun k_ => some k_ ≠ (v0_ : Value).ownBlock ∧ some k_ ≠ (v2_ : Value).ownBlock) v1_ r2 ∧ Kd.R (Kd.int .i64) 3 w' w.heap.size (fun k_ => some k_ ≠ (v0_ : Value).ownBlock ∧ some k_ ≠ (v1_ : Value).ownBlock) v2_ r3 ∧ Below w.heap.size w w' := by
 have n1 := Try.underlying30
 have M0 := zK n0
 have N0 := zK o0
 clear n0 o0
 have O0 := zK p0
 have R0 := zK q0
 clear p0 q0
 have S0 := zK t0
 have T0 := zK x0
 clear t0 x0
 have HB := zK (Below.refl w.heap.size w)
 have H : ((slices_Clone_int_int.f z).bind fun i0 => ((slices_Clone_int_int.f A).bind fun j0 => ((slices_Clone_int_int.f B).bind fun l0 => (some (i0, j0, l0, T, U, X))))) = some (r1, r2, r3, r4, r5, r6) := h
 clear h
 replace H := z6 H
 obtain ⟨i0, U0, H⟩ := H
 have A2 := zK U0
 clear U0
 replace H := z6 H
 obtain ⟨j0, V0, H⟩ := H
 have A3 := zK V0
 clear V0
 replace H := z6 H
 obtain ⟨l0, X0, H⟩ := H
 have A4 := zK X0
 clear X0
 simp only [Option.some.injEq, Prod.mk.injEq] at H
 obtain ⟨rfl, rfl, rfl, rfl, rfl, rfl⟩ := H
 go_enter Try.func44, Try.ntmps44
 try go_wp2_with (first | ((with_reducible refine gd 1 rfl ?_); refine zJ 1 #[.slice a0 z.length b0, .slice c0 A.length d0, .slice e0 B.length f0, .int .i64 T, .int .i64 U, .int .i64 X] 30 ?_; intro L hg w5 hbox hb; have D := z8 hb; have E := zK (hbox); have I := z9 hg; have O := z9 hg; revert D E I O; clear HB; intro HB q i1 j1; clear hb hbox hg) | ((with_reducible refine gd 2 rfl ?_); refine zJ 2 #[.slice none 0 0, .slice none 0 0, .slice none 0 0, .int .i64 0, .int .i64 0, .int .i64 0] 30 ?_; intro l hg w6 hbox hb; have D := z7 q hb; have E := z8 hb; have I := zK (hbox); have O := z9 hg; have m0 := z9 hg; have A0 := zHH hg q; have g1 := zGG hg q; revert D E I O m0 A0 g1; clear q HB; intro q HB u l1 m1 a x; clear hb hbox hg))
 have D := zK (zd q.out)
 have E := zK (zd u.out)
 have I := zK (ze HB.out)
 revert D E I
 clear q u HB
 intro q u HB
 refine start_ (n := 17) (S := fun w' => w'.cell? ⟨L, 0, none⟩ = some (.slice a0 z.length b0) ∧ w'.cell? ⟨L, 1, none⟩ = some (.slice c0 A.length d0) ∧ w'.cell? ⟨L, 2, none⟩ = some (.slice e0 B.length f0) ∧ w'.cell? ⟨L, 3, none⟩ = some (.int .i64 T) ∧ w'.cell? ⟨L, 4, none⟩ = some (.int .i64 U) ∧ w'.cell? ⟨L, 5, none⟩ = some (.int .i64 X)) (ds := []) (bl 17 0) (by kernel_rfl) rfl (by kernel_rfl) ⟨zy q 0, zy q 1, zy q 2, zy q 3, zy q 4, zy q 5⟩ (fun hHeld => ?_); refine with_tabW impl_cloneOpt.tab1 impl_cloneOpt.bits1 (fun HT_ HW_ => ?_)
 generalize w6.drew = w7 at q u HB hHeld ⊢
 refine zP 0 3 (bl 17 1) HT_ ?_
 refine zP 3 6 (bl 17 9) HT_ ?_
 refine zP 6 9 (bl 17 73) HT_ ?_
 refine zP 9 12 (bl 17 585) HT_ ?_
 refine zP 11 14 (bl 17 2633) HT_ ?_
 refine zP 13 16 (bl 17 10825) HT_ ?_
 refine zT 1 4 (bl 17 10827) rfl rfl HT_ HW_ hHeld (by rintro w' ⟨s0, s1, s2, s3, s4, s5⟩; go_simp; with_reducible rfl) ?_
 refine zT 4 7 (bl 17 10843) rfl rfl HT_ HW_ hHeld (by rintro w' ⟨s0, s1, s2, s3, s4, s5⟩; go_simp; with_reducible rfl) ?_
 refine zT 7 10 (bl 17 10971) rfl rfl HT_ HW_ hHeld (by rintro w' ⟨s0, s1, s2, s3, s4, s5⟩; go_simp; with_reducible rfl) ?_
 refine zT 10 13 (bl 17 11995) rfl rfl HT_ HW_ hHeld (by rintro w' ⟨s0, s1, s2, s3, s4, s5⟩; go_simp; with_reducible rfl) ?_
 refine zT 12 15 (bl 17 16091) rfl rfl HT_ HW_ hHeld (by rintro w' ⟨s0, s1, s2, s3, s4, s5⟩; go_simp; with_reducible rfl) ?_
 refine zT 14 17 (bl 17 32475) rfl rfl HT_ HW_ hHeld (by rintro w' ⟨s0, s1, s2, s3, s4, s5⟩; go_simp; with_reducible rfl) ?_
 refine one_ (i := 2) (N := some 5) (bl 17 32479) rfl rfl (one_of HT_.out (by kernel_rfl)) (by decide) (fun K hK => ?_)
 refine goes_ Try.func70 (by kernel_rfl) rfl #[.slice a0 z.length b0] (by rfl) rfl rfl zL ?_
 refine (slices_Clone_int_int.calls _ _ z i0 _ (zS M0) N0.out A2.out).mono ?_
 rintro e w8 ⟨v277, rfl, J, hb⟩
 refine ⟨_, rfl, ?_⟩
 have D := zK (Kd.R_lower J (zz zB))
 have E := z7 q hb
 have I := z7 u hb
 have O := z8 hb
 revert D E I O
 clear q u HB
 intro y q u HB
 (try clear hb)
 (try clear hb2)
 (try clear hk)
 (try clear hi)
 (try clear J)
 refine hK.out _ _ ⟨zy q 0, zy q 1, zy q 2, zy q 3, zy q 4, zy q 5⟩ (fun hHeld => ?_)
 clear hK K
 refine zU 5 ?_
 refine one_ (i := 5) (N := some 8) (bl 17 32511) rfl rfl (one_of HT_.out (by kernel_rfl)) (by decide) (fun K hK => ?_)
 refine goes_ Try.func70 (by kernel_rfl) rfl #[.slice c0 A.length d0] (by rfl) rfl rfl zL ?_
 refine (slices_Clone_int_int.calls _ _ A j0 _ (zS O0) R0.out A3.out).mono ?_
 rintro e w9 ⟨v280, rfl, J, hb⟩
 refine ⟨_, rfl, ?_⟩
 have D := zK (Kd.R_elder' (zkR y) (Kd.R_base J) hb)
 have E := zK (Kd.R_lower (Kd.R_new' J (Kd.R_lt (zkR y))) (zz zB))
 have I := z7 q hb
 have O := z7 u hb
 have m0 := z8 hb
 revert D E I O m0
 clear y q u HB
 intro y M q u HB
 (try clear hb)
 (try clear hb2)
 (try clear hk)
 (try clear hi)
 (try clear J)
 refine hK.out _ _ ⟨zy q 0, zy q 1, zy q 2, zy q 3, zy q 4, zy q 5⟩ (fun hHeld => ?_)
 clear hK K
 refine zU 8 ?_
 refine one_ (i := 8) (N := some 11) (bl 17 32767) rfl rfl (one_of HT_.out (by kernel_rfl)) (by decide) (fun K hK => ?_)
 refine goes_ Try.func70 (by kernel_rfl) rfl #[.slice e0 B.length f0] (by rfl) rfl rfl zL ?_
 refine (slices_Clone_int_int.calls _ _ B l0 _ (zS S0) T0.out A4.out).mono ?_
 rintro e g0 ⟨v283, rfl, J, hb⟩
 refine ⟨_, rfl, ?_⟩
 have D := zK (Kd.R_elder' (zkR y) (Kd.R_base J) hb)
 have E := zK (Kd.R_elder' (zkR M) (Kd.R_base J) hb)
 have I := zK (Kd.R_lower (Kd.R_new' (Kd.R_new' J (Kd.R_lt (zkR y))) (Kd.R_lt (zkR M))) (zz zB))
 have O := z7 q hb
 have m0 := z7 u hb
 have A0 := z8 hb
 revert D E I O m0 A0
 clear y M q u HB
 intro y M y0 q u HB
 (try clear hb)
 (try clear hb2)
 (try clear hk)
 (try clear hi)
 (try clear J)
 obtain ⟨a1, b1, I0⟩ := Kd.R_slice y0.out
 (first | subst I0 | (injection I0 with f1_ f2_ f3_; have f4_ := f1_.symm; have f5_ := f3_.symm; clear f1_ f2_ f3_; subst f4_; subst f5_))
 obtain ⟨c1, d1, J0⟩ := Kd.R_slice M.out
 (first | subst J0 | (injection J0 with f1_ f2_ f3_; have f4_ := f1_.symm; have f5_ := f3_.symm; clear f1_ f2_ f3_; subst f4_; subst f5_))
 obtain ⟨e1, f1, L0⟩ := Kd.R_slice y.out
 (first | subst L0 | (injection L0 with f1_ f2_ f3_; have f4_ := f1_.symm; have f5_ := f3_.symm; clear f1_ f2_ f3_; subst f4_; subst f5_))
 refine hK.out _ _ ⟨zy q 0, zy q 1, zy q 2, zy q 3, zy q 4, zy q 5⟩ (fun hHeld => ?_)
 clear hK K
 refine zU 11 ?_
 refine zP 15 18 (bl 17 65535) HT_ ?_
 refine one_ (i := 16) (N := none) (bl 17 131071) rfl rfl (one_of HT_.out (by kernel_rfl)) (by decide) (fun K hK => ?_)
 have x1 : g0.cell? ⟨l, 0, none⟩ = some (.slice none 0 0) := zy u 0
 have hfs14 := zf u.out 0
 have hns14_0 := a.out
 have hms14_0 := x.out
 have y1 : g0.cell? ⟨l, 1, none⟩ = some (.slice none 0 0) := zy u 1
 have hfs15 := zf u.out 1
 have hns15_0 := a.out
 have hms15_0 := x.out
 have A1 : g0.cell? ⟨l, 2, none⟩ = some (.slice none 0 0) := zy u 2
 have hfs16 := zf u.out 2
 have hns16_0 := a.out
 have hms16_0 := x.out
 have B1 : g0.cell? ⟨l, 3, none⟩ = some (.int .i64 0) := zy u 3
 have hfs17 := zf u.out 3
 have hns17_0 := a.out
 have hms17_0 := x.out
 have C1 : g0.cell? ⟨l, 4, none⟩ = some (.int .i64 0) := zy u 4
 have hfs18 := zf u.out 4
 have hns18_0 := a.out
 have hms18_0 := x.out
 have D1 : g0.cell? ⟨l, 5, none⟩ = some (.int .i64 0) := zy u 5
 have hfs19 := zf u.out 5
 have hns19_0 := a.out
 have hms19_0 := x.out
 refine skip_ (w1 := ?_) (by rfl) rfl ?_ ?_
 rotate_left
 · go_simp
   rfl
 refine hK.out _ _ ⟨((cell_far (p := ⟨l, _, none⟩) a.out _).trans (((cell_far (p := ⟨l, _, none⟩) a.out _).trans (((cell_far (p := ⟨l, _, none⟩) a.out _).trans (((cell_far (p := ⟨l, _, none⟩) a.out _).trans (((cell_far (p := ⟨l, _, none⟩) a.out _).trans (((cell_far (p := ⟨l, _, none⟩) a.out _).trans (hHeld.1)))))))))))), ((cell_far (p := ⟨l, _, none⟩) a.out _).trans (((cell_far (p := ⟨l, _, none⟩) a.out _).trans (((cell_far (p := ⟨l, _, none⟩) a.out _).trans (((cell_far (p := ⟨l, _, none⟩) a.out _).trans (((cell_far (p := ⟨l, _, none⟩) a.out _).trans (((cell_far (p := ⟨l, _, none⟩) a.out _).trans (hHeld.2.1)))))))))))), ((cell_far (p := ⟨l, _, none⟩) a.out _).trans (((cell_far (p := ⟨l, _, none⟩) a.out _).trans (((cell_far (p := ⟨l, _, none⟩) a.out _).trans (((cell_far (p := ⟨l, _, none⟩) a.out _).trans (((cell_far (p := ⟨l, _, none⟩) a.out _).trans (((cell_far (p := ⟨l, _, none⟩) a.out _).trans (hHeld.2.2.1)))))))))))), ((cell_far (p := ⟨l, _, none⟩) a.out _).trans (((cell_far (p := ⟨l, _, none⟩) a.out _).trans (((cell_far (p := ⟨l, _, none⟩) a.out _).trans (((cell_far (p := ⟨l, _, none⟩) a.out _).trans (((cell_far (p := ⟨l, _, none⟩) a.out _).trans (((cell_far (p := ⟨l, _, none⟩) a.out _).trans (hHeld.2.2.2.1)))))))))))), ((cell_far (p := ⟨l, _, none⟩) a.out _).trans (((cell_far (p := ⟨l, _, none⟩) a.out _).trans (((cell_far (p := ⟨l, _, none⟩) a.out _).trans (((cell_far (p := ⟨l, _, none⟩) a.out _).trans (((cell_far (p := ⟨l, _, none⟩) a.out _).trans (((cell_far (p := ⟨l, _, none⟩) a.out _).trans (hHeld.2.2.2.2.1)))))))))))), ((cell_far (p := ⟨l, _, none⟩) a.out _).trans (((cell_far (p := ⟨l, _, none⟩) a.out _).trans (((cell_far (p := ⟨l, _, none⟩) a.out _).trans (((cell_far (p := ⟨l, _, none⟩) a.out _).trans (((cell_far (p := ⟨l, _, none⟩) a.out _).trans (((cell_far (p := ⟨l, _, none⟩) a.out _).trans (hHeld.2.2.2.2.2))))))))))))⟩ (fun hHeld => ?_)
 clear hK K
 refine done_ (done_of HT_.out (by kernel_rfl)) ?_
 try go_wp2
 refine bodyPost_ret (results_cell_row rfl _ _ l 30 #[.slice e1 i0.length f1, .slice c1 j0.length d1, .slice a1 l0.length b1, .int .i64 T, .int .i64 U, .int .i64 X] (0, 0) _ rfl (zW u) Try.underlying30 rfl (by kernel_rfl)) rfl ?_
 exact ⟨_, _, _, zE, Kd.R_mono (zlR (Kd.R_types y.out u.out (by decide))) (fun _ hk => ⟨hk.1.1.2, hk.1.2⟩), Kd.R_mono (zlR (Kd.R_types M.out u.out (by decide))) (fun _ hk => ⟨hk.1.1.2, hk.1.2⟩), Kd.R_mono (zlR (Kd.R_types y0.out u.out (by decide))) (fun _ hk => ⟨hk.1.1.2, hk.1.2⟩), zB⟩
def impl_isGrad.f (l : Int) : Option (Bool) := (impl_within.f l (-16777216) 16777216).bind fun a => (some a)
theorem impl_isGrad.calls (l) (r : Bool) (w) (h : impl_isGrad.f l = some r) :
 Calls Try.prog 71 #[.int .i64 l] w fun e w' => e = .returned (.bool r) ∧ Drawn0 w w' := by
 have H : ((impl_within.f l (-16777216) 16777216).bind fun a => (some a)) = some r := h
 clear h
 replace H := z6 H
 obtain ⟨a, q, H⟩ := H
 have u := zK q
 clear q
 obtain rfl := z5 H
 go_enter Try.func71, Try.ntmps71
 go_wp2_with (first | ((with_reducible refine gc 62 rfl ?_); refine zF 4 Try.func62 #[.int .i64 l, .int .i64 (-16777216), .int .i64 16777216] rfl zL ?_; (with_reducible refine (impl_within.calls l (-16777216) 16777216 a _ u.out).mono ?_); rintro e w' ⟨rfl, ⟨nd, rfl⟩⟩; refine ⟨_, rfl, ?_⟩))
 go_ret
 exact ⟨zR, zD⟩
def impl_gradOk.l0 : Nat → List Int → List Int → Int → Int → Option (Bool)
 | 0, _, _, _, _ => none
 | k + 1, u, l, x, a => if a < x then (if 0 ≤ a then (if a < (l.length : Int) then ((impl_isGrad.f (rd l a)).bind fun q => (if q = true then (impl_gradOk.l0 k u l x (wrap64 (a + 1))) else (some false))) else (none)) else (none)) else (some (decide ((u.length : Int) ≤ 4096)))
def impl_gradOk.f (k : Nat) (a : List Int) : Option (Bool) := impl_gradOk.l0 k a a (a.length : Int) 0
theorem impl_gradOk.calls (k) (X) (c0) (l : List Int) (r : Bool) (w) (I : Kd.C (Kd.int .i64) w X l.length l) (J : l.length ≤ c0) (h : impl_gradOk.f k l = some r) :
 Calls Try.prog 45 #[.slice X l.length c0] w fun e w' => e = .returned (.bool r) ∧ Drawn0 w w' := by
 have L := zK I
 have f0 := zK J
 clear I J
 have H : (impl_gradOk.l0 k l l (l.length : Int) 0) = some r := h
 clear h
 have H' := zK H
 clear H
 go_enter Try.func45, Try.ntmps45
 go_wp2
 go_loopg [7] k (fun kq v7 w' => ∃ (a : Int), v7 = .int .i64 a ∧ Aside0 (impl_gradOk.l0 kq l l (l.length : Int) a = some r) ∧ Aside0 (kq ≤ k) ∧ Drawn0 w w')
 case atStart => exact ⟨(0), zR, H', ⟨Nat.le_refl _⟩, zD⟩
 clear H'
 obtain ⟨a, rfl, HA, M, ⟨m1, rfl⟩⟩ := hrel
 rcases gk with _ | k1
 · exact absurd HA.out (by simp [impl_gradOk.l0])
 have H := HA.out
 clear HA
 simp only [impl_gradOk.l0] at H
 by_cases y : a < (l.length : Int)
 rotate_left
 · rw [if_neg y] at H
   have T := z2 y
   clear y
   obtain rfl := z5 H
   go_wp2
   go_ret
   exact ⟨zR, zD⟩
 rw [if_pos y] at H
 have T := z1 y
 clear y
 by_cases A : 0 ≤ a
 rotate_left
 · rw [if_neg A] at H
   exact absurd H (by simp)
 rw [if_pos A] at H
 have d0 := z1 A
 clear A
 by_cases B : a < (l.length : Int)
 rotate_left
 · rw [if_neg B] at H
   exact absurd H (by simp)
 rw [if_pos B] at H
 have e0 := z1 B
 clear B
 replace H := z6 H
 obtain ⟨U, O, H⟩ := H
 have A5 := zK O
 clear O
 by_cases D : U = true
 rotate_left
 · replace D := Bool.eq_false_iff.mpr D
   subst D
   rw [if_neg (show ¬ (false = true) by decide)] at H
   obtain rfl := z5 H
   have q : 0 ≤ (a : Int) := z3
   have u : a < (l.length : Int) := z3
   obtain ⟨E, x, z⟩ := Kd.at_int L.out a q u
   cases x
   replace q := eq_true q
   replace u := eq_true u
   go_wp2_with (first | ((with_reducible refine gc 71 rfl ?_); refine zF 12 Try.func71 #[.int .i64 (rd l a)] rfl zL ?_; (with_reducible refine (impl_isGrad.calls (rd l a) false _ A5.out).mono ?_); rintro e w' ⟨rfl, ⟨nd, rfl⟩⟩; refine ⟨_, rfl, ?_⟩))
   go_ret
   exact ⟨zR, zD⟩
 subst D
 rw [if_pos rfl] at H
 have H' := zK H
 clear H
 have q : 0 ≤ (a : Int) := z3
 have u : a < (l.length : Int) := z3
 obtain ⟨E, x, z⟩ := Kd.at_int L.out a q u
 cases x
 replace q := eq_true q
 replace u := eq_true u
 go_wp2_with (first | ((with_reducible refine gc 71 rfl ?_); refine zF 12 Try.func71 #[.int .i64 (rd l a)] rfl zL ?_; (with_reducible refine (impl_isGrad.calls (rd l a) true _ A5.out).mono ?_); rintro e w' ⟨rfl, ⟨nd, rfl⟩⟩; refine ⟨_, rfl, ?_⟩))
 go_roundg k1
 case measure => have := M.out; omega
 case rel => exact ⟨(wrap64 (a + 1)), zR, H', ⟨by have := M.out; omega⟩, zD⟩
def impl_near.f (a : Int) (l : Int) (q : Int) : Option (Int) := if l > (wrap64 (q - l)) then (some (wrap64 (a + 1))) else (if l = (wrap64 (q - l)) then (if (Go.bits .and .i64 a 1) = 1 then (some (wrap64 (a + 1))) else (some a)) else (some a))
theorem impl_near.calls (l) (a) (x) (r) (w) (h : impl_near.f l a x = some r) :
 Calls Try.prog 72 #[.int .i64 l, .int .i64 a, .int .i64 x] w fun e w' => e = .returned (.int .i64 r) ∧ Drawn0 w w' := by
 have H : (if a > (wrap64 (x - a)) then (some (wrap64 (l + 1))) else (if a = (wrap64 (x - a)) then (if (Go.bits .and .i64 l 1) = 1 then (some (wrap64 (l + 1))) else (some l)) else (some l))) = some r := h
 clear h
 by_cases y : a > (wrap64 (x - a))
 · rw [if_pos y] at H
   have z := z1 y
   clear y
   obtain rfl := z5 H
   go_enter Try.func72, Try.ntmps72
   go_wp2
   go_ret
   exact ⟨zR, zD⟩
 rw [if_neg y] at H
 have z := z2 y
 clear y
 by_cases q : a = (wrap64 (x - a))
 rotate_left
 · rw [if_neg q] at H
   have A := beq_eq_false_iff_ne.mpr q
   have B := bne_iff_ne.mpr q
   obtain rfl := z5 H
   go_enter Try.func72, Try.ntmps72
   go_wp2
   go_ret
   exact ⟨zR, zD⟩
 rw [if_pos q] at H
 have A := beq_iff_eq.mpr q
 have B := bne_eq_false_iff_eq.mpr q
 clear q
 by_cases u : (Go.bits .and .i64 l 1) = 1
 rotate_left
 · rw [if_neg u] at H
   have D := beq_eq_false_iff_ne.mpr u
   have E := bne_iff_ne.mpr u
   obtain rfl := z5 H
   go_enter Try.func72, Try.ntmps72
   go_wp2
   go_ret
   exact ⟨zR, zD⟩
 rw [if_pos u] at H
 have D := beq_iff_eq.mpr u
 have E := bne_eq_false_iff_eq.mpr u
 clear u
 obtain rfl := z5 H
 go_enter Try.func72, Try.ntmps72
 go_wp2
 go_ret
 exact ⟨zR, zD⟩
def impl_Near.f (l : Int) (a : Int) : Option (Int) := if a < 1 then (some 0) else (if a > 4611686018427387904 then (some 0) else (if a = 0 then (none) else (if (Int.tmod l a) < 0 then ((impl_near.f (wrap64 ((wrap64 (Int.tdiv l a)) - 1)) (wrap64 ((Int.tmod l a) + a)) a).bind fun q => (some q)) else ((impl_near.f (wrap64 (Int.tdiv l a)) (Int.tmod l a) a).bind fun u => (some u)))))
theorem impl_Near.calls (l) (a) (r) (w) (h : impl_Near.f l a = some r) :
 Calls Try.prog 48 #[.int .i64 l, .int .i64 a] w fun e w' => e = .returned (.int .i64 r) ∧ Drawn0 w w' := by
 have H : (if a < 1 then (some 0) else (if a > 4611686018427387904 then (some 0) else (if a = 0 then (none) else (if (Int.tmod l a) < 0 then ((impl_near.f (wrap64 ((wrap64 (Int.tdiv l a)) - 1)) (wrap64 ((Int.tmod l a) + a)) a).bind fun q => (some q)) else ((impl_near.f (wrap64 (Int.tdiv l a)) (Int.tmod l a) a).bind fun u => (some u)))))) = some r := h
 clear h
 by_cases x : a < 1
 · rw [if_pos x] at H
   have E := z1 x
   clear x
   obtain rfl := z5 H
   go_enter Try.func48, Try.ntmps48
   go_wp2
   repeat (go_quiet (fail); try go_wp2)
   go_ret
   exact ⟨zR, zD⟩
 rw [if_neg x] at H
 have E := z2 x
 clear x
 by_cases y : a > 4611686018427387904
 · rw [if_pos y] at H
   have I := z1 y
   clear y
   obtain rfl := z5 H
   go_enter Try.func48, Try.ntmps48
   go_wp2
   repeat (go_quiet (fail); try go_wp2)
   go_ret
   exact ⟨zR, zD⟩
 rw [if_neg y] at H
 have I := z2 y
 clear y
 by_cases A : a = 0
 · rw [if_pos A] at H
   exact absurd H (by simp)
 rw [if_neg A] at H
 have O := beq_eq_false_iff_ne.mpr A
 have T := bne_iff_ne.mpr A
 by_cases z : (Int.tmod l a) < 0
 rotate_left
 · rw [if_neg z] at H
   have J := z2 z
   clear z
   replace H := z6 H
   obtain ⟨u, B, H⟩ := H
   have L := zK B
   clear B
   obtain rfl := z5 H
   go_enter Try.func48, Try.ntmps48
   go_wp2_with (first | (go_at_call 72; (with_reducible refine (impl_near.calls (wrap64 (Int.tdiv l a)) (Int.tmod l a) a u _ L.out).mono ?_); rintro e w' ⟨rfl, ⟨nd, rfl⟩⟩; (try first | exact ⟨rfl, _, World.drewN_drewN _ _ _⟩ | exact ⟨rfl, _, Eq.trans (World.drewN_drewN _ _ _) (congrArg (World.drewN _) (Nat.add_assoc _ _ _))⟩)))
   repeat (go_quiet (first | (go_at_call 72; (with_reducible refine (impl_near.calls (wrap64 (Int.tdiv l a)) (Int.tmod l a) a u _ L.out).mono ?_); rintro e w' ⟨rfl, ⟨nd, rfl⟩⟩; (try first | exact ⟨rfl, _, World.drewN_drewN _ _ _⟩ | exact ⟨rfl, _, Eq.trans (World.drewN_drewN _ _ _) (congrArg (World.drewN _) (Nat.add_assoc _ _ _))⟩))); try go_wp2_with (first | (go_at_call 72; (with_reducible refine (impl_near.calls (wrap64 (Int.tdiv l a)) (Int.tmod l a) a u _ L.out).mono ?_); rintro e w' ⟨rfl, ⟨nd, rfl⟩⟩; (try first | exact ⟨rfl, _, World.drewN_drewN _ _ _⟩ | exact ⟨rfl, _, Eq.trans (World.drewN_drewN _ _ _) (congrArg (World.drewN _) (Nat.add_assoc _ _ _))⟩))))
   go_ret
   exact ⟨zR, zD⟩
 rw [if_pos z] at H
 have J := z1 z
 clear z
 replace H := z6 H
 obtain ⟨q, D, H⟩ := H
 have M := zK D
 clear D
 obtain rfl := z5 H
 go_enter Try.func48, Try.ntmps48
 go_wp2_with (first | (go_at_call 72; (with_reducible refine (impl_near.calls (wrap64 ((wrap64 (Int.tdiv l a)) - 1)) (wrap64 ((Int.tmod l a) + a)) a q _ M.out).mono ?_); rintro e w' ⟨rfl, ⟨nd, rfl⟩⟩; (try first | exact ⟨rfl, _, World.drewN_drewN _ _ _⟩ | exact ⟨rfl, _, Eq.trans (World.drewN_drewN _ _ _) (congrArg (World.drewN _) (Nat.add_assoc _ _ _))⟩)))
 repeat (go_quiet (first | (go_at_call 72; (with_reducible refine (impl_near.calls (wrap64 ((wrap64 (Int.tdiv l a)) - 1)) (wrap64 ((Int.tmod l a) + a)) a q _ M.out).mono ?_); rintro e w' ⟨rfl, ⟨nd, rfl⟩⟩; (try first | exact ⟨rfl, _, World.drewN_drewN _ _ _⟩ | exact ⟨rfl, _, Eq.trans (World.drewN_drewN _ _ _) (congrArg (World.drewN _) (Nat.add_assoc _ _ _))⟩))); try go_wp2_with (first | (go_at_call 72; (with_reducible refine (impl_near.calls (wrap64 ((wrap64 (Int.tdiv l a)) - 1)) (wrap64 ((Int.tmod l a) + a)) a q _ M.out).mono ?_); rintro e w' ⟨rfl, ⟨nd, rfl⟩⟩; (try first | exact ⟨rfl, _, World.drewN_drewN _ _ _⟩ | exact ⟨rfl, _, Eq.trans (World.drewN_drewN _ _ _) (congrArg (World.drewN _) (Nat.add_assoc _ _ _))⟩))))
 go_ret
 exact ⟨zR, zD⟩
def impl_StepOpt_1.f (l : Int) (q : Int) (u : Int) (x : Int) (y : Int) (z : Int) (A : Int) (B : Int) (D : Int) (E : Int) (a : Int) : Option (Int) := some 0
def impl_Root.l0 : Nat → Int → Int → Int → Option (Int)
 | 0, _, _, _ => none
 | k + 1, q, l, a => if a > 0 then (if (wrap64 ((wrap64 (l + a)) * (wrap64 (l + a)))) ≤ q then (if (wrap64 (l + a)) ≤ 2147483648 then (impl_Root.l0 k q (wrap64 (l + a)) (a / 2)) else (impl_Root.l0 k q l (a / 2))) else (impl_Root.l0 k q l (a / 2))) else (some l)
def impl_Root.f (k : Nat) (l : Int) : Option (Int) := (impl_within.f l 0 4611686018427387904).bind fun a => (if a = true then (impl_Root.l0 k l 0 2147483648) else (some 0))
theorem impl_Root.calls (k) (q) (r) (w) (h : impl_Root.f k q = some r) :
 Calls Try.prog 79 #[.int .i64 q] w fun e w' => e = .returned (.int .i64 r) ∧ Drawn0 w w' := by
 have H : ((impl_within.f q 0 4611686018427387904).bind fun x => (if x = true then (impl_Root.l0 k q 0 2147483648) else (some 0))) = some r := h
 clear h
 replace H := z6 H
 obtain ⟨x, D, H⟩ := H
 have L := zK D
 clear D
 by_cases B : x = true
 rotate_left
 · replace B := Bool.eq_false_iff.mpr B
   subst B
   rw [if_neg (show ¬ (false = true) by decide)] at H
   obtain rfl := z5 H
   go_enter Try.func79, Try.ntmps79
   go_wp2_with (first | ((with_reducible refine gc 62 rfl ?_); refine zF 6 Try.func62 #[.int .i64 q, .int .i64 0, .int .i64 4611686018427387904] rfl zL ?_; (with_reducible refine (impl_within.calls q 0 4611686018427387904 false _ L.out).mono ?_); rintro e w' ⟨rfl, ⟨nd, rfl⟩⟩; refine ⟨_, rfl, ?_⟩))
   go_ret
   exact ⟨zR, zD⟩
 subst B
 rw [if_pos rfl] at H
 have H' := zK H
 clear H
 go_enter Try.func79, Try.ntmps79
 go_wp2_with (first | ((with_reducible refine gc 62 rfl ?_); refine zF 6 Try.func62 #[.int .i64 q, .int .i64 0, .int .i64 4611686018427387904] rfl zL ?_; (with_reducible refine (impl_within.calls q 0 4611686018427387904 true _ L.out).mono ?_); rintro e w' ⟨rfl, ⟨nd, rfl⟩⟩; refine ⟨_, rfl, ?_⟩))
 go_loopg [3, 4] k (fun kq v3 v4 w' => ∃ (l : Int) (a : Int), v3 = .int .i64 l ∧ v4 = .int .i64 a ∧ Aside0 (impl_Root.l0 kq q l a = some r) ∧ Aside0 (kq ≤ k) ∧ Drawn0 w w')
 case atStart => exact ⟨(0), (2147483648), zR, zR, H', ⟨Nat.le_refl _⟩, zD⟩
 clear H'
 try clear M
 try clear B
 obtain ⟨l, a, rfl, rfl, HA, u, ⟨O, rfl⟩⟩ := hrel
 rcases gk with _ | k1
 · exact absurd HA.out (by simp [impl_Root.l0])
 have H := HA.out
 clear HA
 simp only [impl_Root.l0] at H
 by_cases y : a > 0
 rotate_left
 · rw [if_neg y] at H
   have E := z2 y
   clear y
   obtain rfl := z5 H
   go_wp2
   go_ret
   exact ⟨zR, zD⟩
 rw [if_pos y] at H
 have E := z1 y
 clear y
 by_cases z : (wrap64 ((wrap64 (l + a)) * (wrap64 (l + a)))) ≤ q
 rotate_left
 · rw [if_neg z] at H
   have I := z2 z
   clear z
   have H' := zK H
   clear H
   go_wp2
   go_roundg k1
   case measure => have := u.out; omega
   case rel => exact ⟨(l), (a / 2), zR, zR, H', ⟨by have := u.out; omega⟩, zD⟩
 rw [if_pos z] at H
 have I := z1 z
 clear z
 by_cases A : (wrap64 (l + a)) ≤ 2147483648
 rotate_left
 · rw [if_neg A] at H
   have J := z2 A
   clear A
   have H' := zK H
   clear H
   go_wp2
   go_roundg k1
   case measure => have := u.out; omega
   case rel => exact ⟨(l), (a / 2), zR, zR, H', ⟨by have := u.out; omega⟩, zD⟩
 rw [if_pos A] at H
 have J := z1 A
 clear A
 have H' := zK H
 clear H
 go_wp2
 go_roundg k1
 case measure => have := u.out; omega
 case rel => exact ⟨(wrap64 (l + a)), (a / 2), zR, zR, H', ⟨by have := u.out; omega⟩, zD⟩
def impl_Norm.l0 : Nat → Int → List Int → Int → Int → Option (Int)
 | 0, _, _, _, _ => none
 | k + 1, x, l, q, a => if a < q then (if 0 ≤ a then (if a < (l.length : Int) then (impl_Norm.l0 k (wrap64 (x + (wrap64 ((rd l a) * (rd l a))))) l q (wrap64 (a + 1))) else (none)) else (none)) else ((impl_Root.f k x).bind fun u => (some u))
def impl_Norm.f (k : Nat) (a : List Int) : Option (Int) := (impl_gradOk.f k a).bind fun l => (if l = true then (impl_Norm.l0 k 0 a (a.length : Int) 0) else (some 0))
theorem impl_Norm.calls (k) (D) (E) (l : List Int) (r) (w) (L : Kd.C (Kd.int .i64) w D l.length l) (M : l.length ≤ E) (h : impl_Norm.f k l = some r) :
 Calls Try.prog 73 #[.slice D l.length E] w fun e w' => e = .returned (.int .i64 r) ∧ Drawn0 w w' := by
 have A := zK L
 have O := zK M
 clear L M
 have H : ((impl_gradOk.f k l).bind fun u => (if u = true then (impl_Norm.l0 k 0 l (l.length : Int) 0) else (some 0))) = some r := h
 clear h
 replace H := z6 H
 obtain ⟨u, T, H⟩ := H
 have A2 := zK T
 clear T
 by_cases B : u = true
 rotate_left
 · replace B := Bool.eq_false_iff.mpr B
   subst B
   rw [if_neg (show ¬ (false = true) by decide)] at H
   obtain rfl := z5 H
   go_enter Try.func73, Try.ntmps73
   go_wp2_with (first | ((with_reducible refine gc 45 rfl ?_); refine zF 7 Try.func45 #[.slice D l.length E] rfl zL ?_; refine (impl_gradOk.calls k _ _ l false _ (zC A.out) O.out A2.out).mono ?_; rintro e w' ⟨rfl, ⟨nd, rfl⟩⟩; refine ⟨_, rfl, ?_⟩))
   go_ret
   exact ⟨zR, zD⟩
 subst B
 rw [if_pos rfl] at H
 have H' := zK H
 clear H
 go_enter Try.func73, Try.ntmps73
 go_wp2_with (first | ((with_reducible refine gc 45 rfl ?_); refine zF 7 Try.func45 #[.slice D l.length E] rfl zL ?_; refine (impl_gradOk.calls k _ _ l true _ (zC A.out) O.out A2.out).mono ?_; rintro e w' ⟨rfl, ⟨nd, rfl⟩⟩; refine ⟨_, rfl, ?_⟩))
 go_loopg [3, 11] k (fun kq v3 v11 w' => ∃ (q : Int) (a : Int), v3 = .int .i64 q ∧ v11 = .int .i64 a ∧ Aside0 (impl_Norm.l0 kq q l (l.length : Int) a = some r) ∧ Aside0 (kq ≤ k) ∧ Drawn0 w w')
 case atStart => exact ⟨(0), (0), zR, zR, H', ⟨Nat.le_refl _⟩, zD⟩
 clear H'
 try clear p2
 try clear B
 obtain ⟨q, a, rfl, rfl, HA, U, ⟨m1, rfl⟩⟩ := hrel
 rcases gk with _ | k1
 · exact absurd HA.out (by simp [impl_Norm.l0])
 have H := HA.out
 clear HA
 simp only [impl_Norm.l0] at H
 by_cases z : a < (l.length : Int)
 rotate_left
 · rw [if_neg z] at H
   have a0 := z2 z
   clear z
   replace H := z6 H
   obtain ⟨b0, X, H⟩ := H
   have A7 := zK X
   clear X
   obtain rfl := z5 H
   go_wp2_with (first | ((with_reducible refine gc 79 rfl ?_); refine zF 22 Try.func79 #[.int .i64 q] rfl zL ?_; (with_reducible refine (impl_Root.calls k1 q b0 _ A7.out).mono ?_); rintro e w' ⟨rfl, ⟨nd, rfl⟩⟩; refine ⟨_, rfl, ?_⟩))
   go_ret
   exact ⟨zR, zD⟩
 rw [if_pos z] at H
 have a0 := z1 z
 clear z
 by_cases I : 0 ≤ a
 rotate_left
 · rw [if_neg I] at H
   exact absurd H (by simp)
 rw [if_pos I] at H
 have j0 := z1 I
 clear I
 by_cases J : a < (l.length : Int)
 rotate_left
 · rw [if_neg J] at H
   exact absurd H (by simp)
 rw [if_pos J] at H
 have m0 := z1 J
 clear J
 have H' := zK H
 clear H
 have x : 0 ≤ (a : Int) := z3
 have y : a < (l.length : Int) := z3
 obtain ⟨g0, d0, e0⟩ := Kd.at_int A.out a x y
 cases d0
 replace x := eq_true x
 replace y := eq_true y
 go_wp2
 go_roundg k1
 case measure => have := U.out; omega
 case rel => exact ⟨(wrap64 (q + (wrap64 ((rd l a) * (rd l a))))), (wrap64 (a + 1)), zR, zR, H', ⟨by have := U.out; omega⟩, zD⟩
end Go.Proofs.Ytodfhokndnmdoaa.PFnFactor
