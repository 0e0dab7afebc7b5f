-- Printed out of the translation by this session's own turned copy of a printer; Lean checks it.
import Derived.Test.YtdlhmhgpafegpaaEFnExactWeightsm
import Derived.Test.YtdlhmhgpafegpaaPFnExactWeightsx0
import Derived.Test.YtdlhmhgpafegpaaPFnExactWeightsx5
import Derived.Test.YtdlhmhgpafegpaaPFnExactWeightsx6
import Derived.Test.YtdlhmhgpafegpaaPFnExactWeightsx7
namespace Go.Proofs.Ytdlhmhgpafegpaa.PFnExactWeights
open Go.RowKit Go.Proofs.YtdlhmhgpafegpaaW.PrintWords Go.Proofs.YtdlhmhgpafegpaaW.PrintLast Go.Proofs.YtdlhmhgpafegpaaW.PrintMore
attribute [local go_sem] max2_int min2_int max_two min_two max_three min_three max_four min_four
set_option linter.unusedVariables false
set_option linter.unusedSimpArgs false
set_option maxHeartbeats 8000000
set_option maxRecDepth 100000
def slices_Clone_int_int.f (q : List Int) : Option (List Int) := (some (([] : List Int) : List Int)).bind fun l => (if l.length + q.length < 17592186044416 then (some (l ++ q)) else (none))
theorem slices_Clone_int_int.calls_some (T) (X) (y : List Int) (r : List Int) (w) (M : Kd.C (Kd.int .i64) w T y.length y) (O : y.length ≤ X) (h : slices_Clone_int_int.f y = some r) (hA0 : T ≠ none) :
 Calls Try.prog 45 #[.slice T y.length X] w fun e w' => ∃ v0_ : Value, e = .returned (v0_) ∧ Kd.R (Kd.int .i64) 3 w' w.heap.size (fun _ => True) v0_ r ∧ Below w.heap.size w w' := by
 obtain ⟨b0, rfl⟩ := Option.ne_none_iff_exists'.1 hA0
 clear hA0
 have hq := fun (w : World) (a : Option Addr) (n c n' c' : Nat) => Lib.run_eql_slice_nil w 47 3 a n c n' c' Try.underlying47
 have a0 := zK M
 have d0 := zK O
 clear M O
 have HB := zK (Below.refl w.heap.size w)
 have H : ((some (([] : List Int) : List Int)).bind fun l => (if l.length + y.length < 17592186044416 then (some (l ++ y)) else (none))) = some r := h
 clear h
 obtain ⟨l, q⟩ : ∃ y_ : List Int, y_ = (([] : List Int)) := ⟨_, rfl⟩
 replace H : (if l.length + y.length < 17592186044416 then (some (l ++ y)) else (none)) = some r := by first | (rw [q]; with_reducible exact H) | (have z := (Option.bind_some _ _).symm.trans H; rw [q]; with_reducible exact z) | (have z := (Option.bind_some _ _).symm.trans H; with_reducible exact z) | with_reducible exact H | (rw [q]; exact H) | exact H
 have Ny231 := zK q
 clear q
 by_cases J : l.length + y.length < 17592186044416
 rotate_left
 · rw [if_neg J] at H
   exact absurd H (by simp)
 rw [if_pos J] at H
 have LMc2 := zK J
 clear J
 obtain ⟨U, u⟩ : ∃ y_ : List Int, y_ = (l ++ y) := ⟨_, rfl⟩
 replace H : (some U) = some r := by first | (rw [u]; with_reducible exact H) | (have z := (Option.bind_some _ _).symm.trans H; rw [u]; with_reducible exact z) | (have z := (Option.bind_some _ _).symm.trans H; with_reducible exact z) | with_reducible exact H | (rw [u]; exact H) | exact H
 have Ny234 := zK u
 clear u
 obtain rfl := z5 H
 go_enter Try.func45, Try.ntmps45
 go_wp2_with (first | ((with_reducible refine gd 5 rfl ?_); refine Kd.R_lit (Kd.int .i64) _ 3 ?hg (N := 5) ?hd (xs := ([] : List Int)) (inner := []) (ok := fun _ => True) (okp := fun _ => True) ?hr ?hp (fun _ hk => hk) trivial (Below.refl _ _) (Nat.le_refl _) (by simp) ?_; (case hd => rfl); (case hg => rfl); (case hr => first | (go_simp; done) | (go_simp; rfl)); (case hp => exact (Reps.none _ _)); intro v232 w3 A hb hg_ hnew_; clear hg_ hnew_; (first | rw [← Ny231.out] at A | (simp only [Int.reduceToNat] at A; rw [← Ny231.out] at A)); have E := zK (Kd.R_lower A (zz zB)); have I := z8 hb; revert E I; clear HB; intro B HB; clear hb A) | ((with_reducible refine gate_builtin (b := .append) (xs := #[.tmp 5, .tmp 6]) rfl ?_); at_builtin; refine Kd.R_append_rows (Kd.int .i64) (w0 := w) w.heap.size rfl (.tmp 5) (.tmp 6) 47 3 (.int .i64 0) 8 rfl Try.underlying47 info3 rfl (by decide) (by omega) v232 l y _ _ _ (fun _ => True) (fun _ => False) rfl rfl ?aO ?aR (fun _ _ h => h) (fun _ h => h.elim) ?aF ?aB ?aS ?aL ?_; (case aR => exact zS a0); (case aB => exact zB); (case aF => exact (fun _ _ => trivial)); (case aO => exact (zkR B)); (case aS => exact (zz zB)); (case aL => have := LMc2.out; omega); intro v235 w5 ho hb hg hat; rw [← Ny234.out] at ho; have E := zK (hb); have I := zK (ho); revert E I; clear HB B; intro HB L; clear ho hb hg hat))
 go_ret
 exact ⟨_, zE, zkR L, zB⟩
theorem slices_Clone_int_int.calls (u) (y) (l : List Int) (r : List Int) (w) (q : Kd.C (Kd.int .i64) w u l.length l) (A : l.length ≤ y) (h : slices_Clone_int_int.f l = some r) :
 Calls Try.prog 45 #[.slice u l.length y] w fun e w' => ∃ v0_ : Value, e = .returned (v0_) ∧ Kd.R (Kd.int .i64) 3 w' w.heap.size (fun _ => True) v0_ r ∧ Below w.heap.size w w' := by
 rcases u with _ | B
 · obtain rfl : l = [] := by
    rcases Nat.eq_zero_or_pos l.length with z | z
    · exact List.eq_nil_of_length_eq_zero z
    · obtain ⟨_, h1, _⟩ := (by first | exact q | exact (Kd.V_reads' E).2.2 : Kd.C (Kd.int .i64) w none l.length l).2.2 z
      cases h1
   obtain rfl : r = [] := by simp [slices_Clone_int_int.f] at h; first | exact h.symm | exact h
   have hq := fun (w : World) (a : Option Addr) (n c n' c' : Nat) => Lib.run_eql_slice_nil w 47 3 a n c n' c' Try.underlying47
   go_enter Try.func45, Try.ntmps45
   go_wp2
   go_ret
   exact ⟨_, rfl, (by first | exact Kd.R_nil _ _ _ _ _ | exact Kd.N_nil _ _ _ _ _ | exact Kd.V_nil _ _ _ _ _ | exact Kd.Q_nil _ _ _ _ _ | exact Kd.S_nil _ _ _ _ _), Below.refl _ _⟩
 · exact slices_Clone_int_int.calls_some (some B) y l r w q A h (by simp)
def impl_weigh_1.f (k : Nat) (l : List Int) (u : List Int) (y : List Int) : Option (Int) := (impl_byKey.f k l y).bind fun q => (some q)
theorem impl_weigh_1.calls (k) (y) (z) (l : List Int) (B) (E) (q : List Int) (A1) (c1) (A : List Int) (r) (w) (J : Kd.C (Kd.int .i64) w y l.length l) (L : l.length ≤ z) (M : Kd.C (Kd.int .i64) w B q.length q) (O : q.length ≤ E) (b0 : Kd.C (Kd.int .i64) w A1 A.length A) (c0 : A.length ≤ c1) (h : impl_weigh_1.f k l q A = some r) :
 Calls Try.prog 60 #[.agg #[.slice y l.length z, .slice B q.length E], .slice A1 A.length c1] w fun e w' => e = .returned (.int .i64 r) ∧ Below w.heap.size w w' := by
 have A0 := Try.underlying57
 have X := zK J
 have a0 := zK L
 clear J L
 have q0 := zK M
 have s0 := zK O
 clear M O
 have g0 := zK b0
 have i0 := zK c0
 clear b0 c0
 have HB := zK (Below.refl w.heap.size w)
 have H : ((impl_byKey.f k l A).bind fun I => (some I)) = some r := h
 clear h
 replace H := z6 H
 obtain ⟨I, d0, H⟩ := H
 have A3 := zK d0
 clear d0
 obtain rfl := z5 H
 go_enter Try.func60, Try.ntmps60
 go_wp2_with (first | ((with_reducible refine gd 2 rfl ?_); refine zJ 2 #[.slice y l.length z, .slice B q.length E] 57 ?_; intro t0 hg w4 hbox hb; have T := z8 hb; have U := zK (hbox); have j0 := z9 hg; have l0 := z9 hg; revert T U j0 l0; clear HB; intro HB u x0 y0; clear hb hbox hg; obtain ⟨m0, n0, o0, p0⟩ := zc2 u) | ((with_reducible refine gc 36 rfl ?_); refine zF 8 Try.func36 #[.slice y l.length z, .slice A1 A.length c1] rfl zL ?_; refine (impl_byKey.calls k _ _ l _ _ A I _ (zS X) a0.out (zS g0) i0.out A3.out).mono ?_; rintro e w6 ⟨rfl, hb⟩; refine ⟨_, rfl, ?_⟩; have T := z7 u hb; have U := z8 hb; revert T U; clear u HB; intro u HB))
 go_ret
 exact ⟨zE, zB⟩
def impl_Row_int.l0 : Nat → List (S57) → List Int → Int → Int → Option (Int × Bool)
 | 0, _, _, _, _ => none
 | k + 1, q, y, l, u => if l < u then (if 0 ≤ (wrap64 (Int.tdiv (wrap64 (l + u)) 2)) then (if (wrap64 (Int.tdiv (wrap64 (l + u)) 2)) < (q.length : Int) then ((impl_weigh_1.f k ((rd_T57 q (wrap64 (Int.tdiv (wrap64 (l + u)) 2))).f0) ((rd_T57 q (wrap64 (Int.tdiv (wrap64 (l + u)) 2))).f1) y).bind fun z => (if z < 0 then (impl_Row_int.l0 k q y (wrap64 ((wrap64 (Int.tdiv (wrap64 (l + u)) 2)) + 1)) u) else (impl_Row_int.l0 k q y l (wrap64 (Int.tdiv (wrap64 (l + u)) 2))))) else (none)) else (none)) else (if l < (q.length : Int) then (if 0 ≤ l then ((impl_weigh_1.f k ((rd_T57 q l).f0) ((rd_T57 q l).f1) y).bind fun A => (some (l, (A == 0)))) else (none)) else (some (l, false)))
def impl_Row_int.f (k : Nat) (l : List (S57)) (q : List Int)  : Option (Int × Bool) := impl_Row_int.l0 k l q 0 (l.length : Int)
theorem impl_Row_int.calls (k) (A0) (c0) (q : List (S57)) (A1) (c1) (M : List Int)  (r1) (r2 : Bool) (w) (V0 : Kd.C k57 w A0 q.length q) (X0 : q.length ≤ c0) (a1 : Kd.C (Kd.int .i64) w A1 M.length M) (b1 : M.length ≤ c1) (h : impl_Row_int.f k q M = some (r1, r2)) :
 Calls Try.prog 59 #[.slice A0 q.length c0, .slice A1 M.length c1, .func (.func 60) #[] #[]] w fun e w' => e = .returned (.tuple #[.int .i64 r1, .bool r2]) ∧ Below w.heap.size w w' := by
 have E1 := Try.underlying57
 have F0 := zK V0
 have I1 := zK X0
 clear V0 X0
 have G0 := zK a1
 have I0 := zK b1
 clear a1 b1
 have HB := zK (Below.refl w.heap.size w)
 have H : (impl_Row_int.l0 k q M 0 (q.length : Int)) = some (r1, r2) := h
 clear h
 have H' := zK H
 clear H
 go_enter Try.func59, Try.ntmps59
 go_wp2
 go_loopg [8, 9] k (fun kq v8 v9 w' => ∃ (l : Int) (I : Int), v8 = .int .i64 l ∧ v9 = .int .i64 I ∧ Aside0 (impl_Row_int.l0 kq q M l I = some (r1, r2)) ∧ Aside0 (kq ≤ k) ∧ Aside0 (Below w.heap.size w w'))
 case atStart => exact ⟨(0), ((q.length : Int)), zR, zR, H', ⟨Nat.le_refl _⟩, ⟨zB⟩⟩
 clear H'
 try clear c1
 try clear p2
 obtain ⟨l, I, rfl, rfl, HA, s0, HB⟩ := hrel
 rcases gk with _ | k1
 · exact absurd HA.out (by simp [impl_Row_int.l0])
 have H := HA.out
 clear HA
 simp only [impl_Row_int.l0] at H
 by_cases c4 : l < I
 rotate_left
 · rw [if_neg c4] at H
   have g1 := z2 c4
   clear c4
   by_cases b0 : l < (q.length : Int)
   rotate_left
   · rw [if_neg b0] at H
     have R0 := z2 b0
     clear b0
     simp only [Option.some.injEq, Prod.mk.injEq] at H
     obtain ⟨rfl, rfl⟩ := H
     go_wp2
     go_ret2
     exact ⟨zE, zB⟩
   rw [if_pos b0] at H
   have R0 := z1 b0
   clear b0
   by_cases t0 : 0 ≤ l
   rotate_left
   · rw [if_neg t0] at H
     exact absurd H (by simp)
   rw [if_pos t0] at H
   have C1 := z1 t0
   clear t0
   replace H := z6 H
   obtain ⟨i1, J0, H⟩ := H
   have q1 := zK J0
   clear J0
   simp only [Option.some.injEq, Prod.mk.injEq] at H
   obtain ⟨rfl, rfl⟩ := H
   have o0 : 0 ≤ (l : Int) := z3
   have p0 : l < (q.length : Int) := z3
   obtain ⟨D1, s1, t1, x1, y1, j1, d0, e0, g0, i0, j0, m0⟩ := at_T57 F0.out l o0 p0
   cases j1
   (try replace d0 := zX HB d0)
   (try replace e0 := zX HB e0)
   have y0 := zK i0
   have B0 := zK g0
   clear i0 g0
   have C0 := zK m0
   have D0 := zK j0
   clear m0 j0
   replace o0 := eq_true o0
   replace p0 := eq_true p0
   go_wp2_with (first | (go_at_call 60; (with_reducible refine (impl_weigh_1.calls k1 _ _ ((rd_T57 q l).f0) _ _ ((rd_T57 q l).f1) _ _ M i1 _ ?side1 ?side2 ?side3 ?side4 ?side5 ?side6 q1.out).mono ?_); (case side1 => exact zS y0); (case side2 => exact B0.out); (case side3 => exact zS C0); (case side4 => exact D0.out); (case side5 => exact zS G0); (case side6 => exact I0.out); rintro e J1 ⟨rfl, hb⟩; have n0 := z8 hb; revert n0; clear HB; intro HB))
   go_ret2
   exact ⟨zE, zB⟩
 rw [if_pos c4] at H
 have g1 := z1 c4
 clear c4
 obtain ⟨ji5, hji5⟩ : ∃ j_ : Int, (wrap64 (Int.tdiv (wrap64 (l + I)) 2)) = j_ := ⟨_, rfl⟩
 replace H : (if 0 ≤ (ji5) then (if (ji5) < (q.length : Int) then ((impl_weigh_1.f k1 ((rd_T57 q (ji5)).f0) ((rd_T57 q (ji5)).f1) M).bind fun a0 => (if a0 < 0 then (impl_Row_int.l0 k1 q M (wrap64 ((ji5) + 1)) I) else (impl_Row_int.l0 k1 q M l ji5))) else (none)) else (none)) = some (r1, r2) := by first | (rw [hji5] at H; exact H) | (simp only [hji5] at H ⊢; exact H)
 have hji5w : (IntKind.i64.wrap (Int.tdiv (wrap64 (l + I)) 2)) = ji5 := (i64_w _).trans hji5
 by_cases c6 : 0 ≤ (ji5)
 rotate_left
 · rw [if_neg c6] at H
   exact absurd H (by simp)
 rw [if_pos c6] at H
 have F1 := z1 c6
 clear c6
 by_cases c7 : (ji5) < (q.length : Int)
 rotate_left
 · rw [if_neg c7] at H
   exact absurd H (by simp)
 rw [if_pos c7] at H
 have G1 := z1 c7
 clear c7
 replace H := z6 H
 obtain ⟨a0, d1, H⟩ := H
 have A8 := zK d1
 clear d1
 by_cases c9 : a0 < 0
 rotate_left
 · rw [if_neg c9] at H
   have m1 := z2 c9
   clear c9
   have H' := zK H
   clear H
   have J : 0 ≤ ((ji5) : Int) := z3
   have L : (ji5) < (q.length : Int) := z3
   obtain ⟨U0, L0, M0, N0, O0, q0, u, y, z, A, B, E⟩ := at_T57 F0.out (ji5) J L
   cases q0
   (try replace u := zX HB u)
   (try replace y := zX HB y)
   have O := zK A
   have T := zK z
   clear A z
   have U := zK E
   have X := zK B
   clear E B
   replace J := eq_true J
   replace L := eq_true L
   go_wp2_with (first | (go_at_call 60; (with_reducible refine (impl_weigh_1.calls k1 _ _ ((rd_T57 q (ji5)).f0) _ _ ((rd_T57 q (ji5)).f1) _ _ M a0 _ ?side1 ?side2 ?side3 ?side4 ?side5 ?side6 A8.out).mono ?_); (case side1 => exact zS O); (case side2 => exact T.out); (case side3 => exact zS U); (case side4 => exact X.out); (case side5 => exact zS G0); (case side6 => exact I0.out); rintro e L1 ⟨rfl, hb⟩; have n0 := z8 hb; revert n0; clear HB; intro HB))
   go_roundg k1
   case measure => have := s0.out; omega
   case rel => exact ⟨(l), (ji5), zR, (by first | rfl | (simp; done) | (simp only [← hji5] <;> (first | rfl | simp)) | (simp [*]; done)), H', ⟨by have := s0.out; omega⟩, ⟨zB⟩⟩
 rw [if_pos c9] at H
 have m1 := z1 c9
 clear c9
 have H' := zK H
 clear H
 have J : 0 ≤ ((ji5) : Int) := z3
 have L : (ji5) < (q.length : Int) := z3
 obtain ⟨U0, L0, M0, N0, O0, q0, u, y, z, A, B, E⟩ := at_T57 F0.out (ji5) J L
 cases q0
 (try replace u := zX HB u)
 (try replace y := zX HB y)
 have O := zK A
 have T := zK z
 clear A z
 have U := zK E
 have X := zK B
 clear E B
 replace J := eq_true J
 replace L := eq_true L
 go_wp2_with (first | (go_at_call 60; (with_reducible refine (impl_weigh_1.calls k1 _ _ ((rd_T57 q (ji5)).f0) _ _ ((rd_T57 q (ji5)).f1) _ _ M a0 _ ?side1 ?side2 ?side3 ?side4 ?side5 ?side6 A8.out).mono ?_); (case side1 => exact zS O); (case side2 => exact T.out); (case side3 => exact zS U); (case side4 => exact X.out); (case side5 => exact zS G0); (case side6 => exact I0.out); rintro e M1 ⟨rfl, hb⟩; have n0 := z8 hb; revert n0; clear HB; intro HB))
 go_roundg k1
 case measure => have := s0.out; omega
 case rel => exact ⟨(wrap64 ((ji5) + 1)), (I), (by first | rfl | (simp; done) | (simp only [← hji5] <;> (first | rfl | simp)) | (simp [*]; done)), zR, H', ⟨by have := s0.out; omega⟩, ⟨zB⟩⟩
def impl_weigh.l0 : Nat → List (S57) → List Int → Int → Option (List Int)
 | 0, _, _, _ => none
 | k + 1, q, u, y => if y > 0 then (if 0 ≤ (wrap64 ((u.length : Int) - y)) then (if (wrap64 ((u.length : Int) - y)) ≤ (u.length : Int) then ((impl_Row_int.f k q (u.drop ((wrap64 ((u.length : Int) - y)) : Int).toNat)).bind fun l => (if l.2 = true then (if 0 ≤ l.1 then (if l.1 < (q.length : Int) then (some ((rd_T57 q l.1).f1)) else (none)) else (none)) else (impl_weigh.l0 k q u (wrap64 (y - 1))))) else (none)) else (none)) else (if 0 < (q.length : Int) then (some ((rd_T57 q 0).f1)) else (none))
def impl_weigh.f (k : Nat) (q : List (S57)) (l : List Int) : Option (List Int) := impl_weigh.l0 k q l (mn 4 (l.length : Int))
theorem impl_weigh.calls (k) (q0 : Nat → Prop) (A0) (c0) (q : List (S57)) (A1) (c1) (u : List Int) (r : List Int) (w) (s1 : Kd.V k57 57 w w.heap.size (fun k_ => q0 k_) (.slice A0 q.length c0) q) (S0 : Kd.C (Kd.int .i64) w A1 u.length u) (T0 : u.length ≤ c1) (h : impl_weigh.f k q u = some r) :
 Calls Try.prog 46 #[.slice A0 q.length c0, .slice A1 u.length c1] w fun e w' => ∃ v0_ : Value, e = .returned (v0_) ∧ Kd.V (Kd.int .i64) 3 w' w.heap.size (fun k_ => (q0 k_ ∨ w.heap.size ≤ k_)) v0_ r ∧ Below w.heap.size w w' := by
 have t1 := zK (show Kd.V k57 57 w w.heap.size (fun k_ => (q0 k_ ∨ w.heap.size ≤ k_)) (.slice A0 q.length c0) q from Kd.V_mono s1 (fun k_ hk => .inl hk))
 have U0 := zK S0
 have V0 := zK T0
 clear S0 T0
 have HB := zK (Below.refl w.heap.size w)
 have H : (impl_weigh.l0 k q u (mn 4 (u.length : Int))) = some r := h
 clear h
 obtain ⟨ji3, hji3⟩ : ∃ j_ : Int, (mn 4 (u.length : Int)) = j_ := ⟨_, rfl⟩
 replace H : (impl_weigh.l0 k q u ji3) = some r := by first | (rw [hji3] at H; exact H) | (simp only [hji3] at H ⊢; exact H)
 (try (have hji3h : ji3 ≤ 4 := by (rw [← hji3]; unfold mn; (repeat' split) <;> omega)))
 (try (have hji3g : ji3 ≤ 64 := by omega))
 (try (have hji3l : 0 ≤ ji3 := by (rw [← hji3]; unfold mn; (repeat' split) <;> omega)))
 (try (have hji3m : 0 ≤ ji3 := by omega))
 have hji3_ : (if (u.length : Int) < 4 then (u.length : Int) else 4) = ji3 := hji3
 have H' := zK H
 clear H
 go_enter Try.func46, Try.ntmps46
 go_wp2
 go_loopg [5] k (fun kq v5 w' => ∃ (z : Int), v5 = .int .i64 z ∧ Aside0 (impl_weigh.l0 kq q u z = some r) ∧ Aside0 (kq ≤ k) ∧ Aside0 (Kd.V k57 57 w' w.heap.size (fun k_ => (q0 k_ ∨ w.heap.size ≤ k_)) (.slice A0 q.length c0) q) ∧ Aside0 (Below w.heap.size w w'))
 case atStart => exact ⟨(ji3), (by first | rfl | (simp; done) | (simp only [← hji3] <;> (first | rfl | simp)) | (simp [*]; done)), H', ⟨Nat.le_refl _⟩, ⟨zkV t1⟩, ⟨zB⟩⟩
 clear H'
 try clear c1
 try clear p2
 obtain ⟨z, rfl, HA, X0, l, HB⟩ := hrel
 rcases gk with _ | k1
 · exact absurd HA.out (by simp [impl_weigh.l0])
 have H := HA.out
 clear HA
 simp only [impl_weigh.l0] at H
 by_cases c4 : z > 0
 rotate_left
 · rw [if_neg c4] at H
   have b1 := z2 c4
   clear c4
   by_cases s0 : 0 < (q.length : Int)
   rotate_left
   · rw [if_neg s0] at H
     exact absurd H (by simp)
   rw [if_pos s0] at H
   have M1 := z1 s0
   have N1 : decide (0 < q.length) = true := z1 (by omega)
   clear s0
   obtain rfl := z5 H
   have g0 : 0 ≤ (0 : Int) := (by omega)
   have i0 : 0 < (q.length : Int) := z3
   obtain ⟨O1, x1, y1, B1, C1, d1, A, B, O, T, U, X⟩ := at_T57 (Kd.V_reads' l.out).2.2 0 g0 i0
   cases d1
   obtain ⟨ce247, hce247, hMe247, hcc247⟩ := Kd.V_get l.out z57 0 g0 (by first | exact i0 | exact z3 | (have e_ := (Kd.V_reads' l.out).1; omega))
   obtain ⟨ua247_0, uc247_0, ua247_1, uc247_1, rfl, ul247_0, ge247_0, ul247_1, ge247_1⟩ := k57_openF hMe247
   have E := hcc247 0 _ rfl
   rw [Nat.add_zero] at E
   replace E := z5 (E.symm.trans A)
   injection E with hva_ hvn_ hvc_
   rw [hva_] at ge247_0
   rw [hvc_] at ul247_0
   have HL247_0 := zK (show Kd.V (Kd.int .i64) 3 _ w.heap.size _ _ ((rd_T57 q 0).f0) from Kd.V_mk ul247_0 ge247_0)
   clear hva_ hvn_ hvc_ ge247_0 ul247_0
   have I := hcc247 1 _ rfl
   rw [add_field _ _ 1 (by omega)] at I
   replace I := z5 (I.symm.trans B)
   injection I with hva_ hvn_ hvc_
   rw [hva_] at ge247_1
   rw [hvc_] at ul247_1
   have HL247_1 := zK (show Kd.V (Kd.int .i64) 3 _ w.heap.size _ _ ((rd_T57 q 0).f1) from Kd.V_mk ul247_1 ge247_1)
   clear hva_ hvn_ hvc_ ge247_1 ul247_1
   clear hcc247 hce247
   have qi247 : (0 < q.length) = True := eq_true (by omega)
   (try rw [show ((0 : Int)).toNat = 0 from rfl] at A)
   (try rw [show 0 * 2 = 0 from rfl] at A)
   (try rw [Addr.add_zero'] at A)
   (try rw [show ((0 : Int)).toNat = 0 from rfl] at B)
   (try rw [show 0 * 2 = 0 from rfl] at B)
   (try rw [Addr.add_zero'] at B)
   have g1 := zK T
   have i1 := zK O
   clear T O
   have j1 := zK X
   have m1 := zK U
   clear X U
   replace g0 := eq_true g0
   replace i0 := eq_true i0
   go_wp2
   go_ret
   exact ⟨_, by first | rfl | (simp [errW_none, errW_some] <;> rfl) | (simp only [← hji3]; first | rfl | (simp [errW_none, errW_some] <;> rfl)) | (simp [*, errW_none, errW_some] <;> rfl), zkV HL247_1, zB⟩
 rw [if_pos c4] at H
 have b1 := z1 c4
 clear c4
 obtain ⟨ji5, hji5⟩ : ∃ j_ : Int, (wrap64 ((u.length : Int) - z)) = j_ := ⟨_, rfl⟩
 replace H : (if 0 ≤ (ji5) then (if (ji5) ≤ (u.length : Int) then ((impl_Row_int.f k1 q (u.drop ((ji5) : Int).toNat)).bind fun M => (if M.2 = true then (if 0 ≤ M.1 then (if M.1 < (q.length : Int) then (some ((rd_T57 q M.1).f1)) else (none)) else (none)) else (impl_weigh.l0 k1 q u (wrap64 (z - 1))))) else (none)) else (none)) = some r := by first | (rw [hji5] at H; exact H) | (simp only [hji5] at H ⊢; exact H)
 have hji5w : (IntKind.i64.wrap ((u.length : Int) - z)) = ji5 := (i64_w _).trans hji5
 by_cases c6 : 0 ≤ (ji5)
 rotate_left
 · rw [if_neg c6] at H
   exact absurd H (by simp)
 rw [if_pos c6] at H
 have U1 := eq_true c6
 have V1 := z1 c6
 clear c6
 by_cases c7 : (ji5) ≤ (u.length : Int)
 rotate_left
 · rw [if_neg c7] at H
   exact absurd H (by simp)
 rw [if_pos c7] at H
 have X1 := eq_true c7
 have a2 := z1 c7
 clear c7
 replace H := z6 H
 obtain ⟨⟨y, L0⟩, a1, H⟩ := H
 replace H : (if L0 = true then (if 0 ≤ y then (if y < (q.length : Int) then (some ((rd_T57 q y).f1)) else (none)) else (none)) else (impl_weigh.l0 k1 q u (wrap64 (z - 1)))) = some r := H
 have A8 := zK a1
 clear a1
 by_cases c9 : L0 = true
 rotate_left
 · replace c9 := Bool.eq_false_iff.mpr c9
   subst c9
   rw [if_neg (show ¬ (false = true) by decide)] at H
   have H' := zK H
   clear H
   obtain ⟨b2, t0, _, hsz14, _⟩ := info_parts info3
   obtain ⟨E1, hcut14, hA14, hC14⟩ := print_drop_of (P := Try.prog) (Value.int .i64) 0 47 3 .i64 Try.underlying47 t0 hsz14 A1 c1 u (ji5) (z3) (z3) V0.out
   have j0 := zK (Kd.C_of_reads (h1 := fun _ => rfl) (hA14 _ (Kd.reads_of_C U0.out)))
   have m0 := zK hC14
   clear hA14 hC14 t0 hsz14
   go_wp2_with (first | ((with_reducible refine gc 59 rfl ?_); refine zF 25 Try.func59 #[.slice A0 q.length c0, .slice E1 (u.drop ((ji5) : Int).toNat).length (c1 - (ji5).toNat), .func (.func 60) #[] #[]] rfl (by (try simp only [List.map_toArray, List.map_cons, List.map_nil]); first | done | (rw [show (u.drop ((ji5) : Int).toNat).length = (u.length - (ji5).toNat) from List.length_drop] <;> rfl) | (simp only [hji5]; rfl) | rfl | (simp only [List.length_drop, List.length_take]; rfl)) ?_; refine (impl_Row_int.calls k1 _ _ q _ _ (u.drop ((ji5) : Int).toNat)  y false _ (zC (Kd.V_reads' l.out).2.2) ((Kd.V_reads' l.out).2.1) (zS j0) m0.out A8.out).mono ?_; rintro e d2 ⟨rfl, hb⟩; refine ⟨_, rfl, ?_⟩; have M0 := zK (Kd.V_below (zkV l) hb); have N0 := z8 hb; revert M0 N0; clear l HB; intro l HB))
   go_roundg k1
   case measure => have := X0.out; omega
   case rel => exact ⟨(wrap64 (z - 1)), zR, H', ⟨by have := X0.out; omega⟩, ⟨zkV l⟩, ⟨zB⟩⟩
 subst c9
 rw [if_pos rfl] at H
 by_cases x0 : 0 ≤ y
 rotate_left
 · rw [if_neg x0] at H
   exact absurd H (by simp)
 rw [if_pos x0] at H
 have R1 := z1 x0
 clear x0
 by_cases y0 : y < (q.length : Int)
 rotate_left
 · rw [if_neg y0] at H
   exact absurd H (by simp)
 rw [if_pos y0] at H
 have S1 := z1 y0
 clear y0
 obtain rfl := z5 H
 obtain ⟨c2, B0, _, hsz12, _⟩ := info_parts info3
 obtain ⟨F1, hcut12, hA12, hC12⟩ := print_drop_of (P := Try.prog) (Value.int .i64) 0 47 3 .i64 Try.underlying47 B0 hsz12 A1 c1 u (ji5) (z3) (z3) V0.out
 have j0 := zK (Kd.C_of_reads (h1 := fun _ => rfl) (hA12 _ (Kd.reads_of_C U0.out)))
 have m0 := zK hC12
 clear hA12 hC12 B0 hsz12
 go_wp2_with (first | ((with_reducible refine gc 59 rfl ?_); refine zF 25 Try.func59 #[.slice A0 q.length c0, .slice F1 (u.drop ((ji5) : Int).toNat).length (c1 - (ji5).toNat), .func (.func 60) #[] #[]] rfl (by (try simp only [List.map_toArray, List.map_cons, List.map_nil]); first | done | (rw [show (u.drop ((ji5) : Int).toNat).length = (u.length - (ji5).toNat) from List.length_drop] <;> rfl) | (simp only [hji5]; rfl) | rfl | (simp only [List.length_drop, List.length_take]; rfl)) ?_; refine (impl_Row_int.calls k1 _ _ q _ _ (u.drop ((ji5) : Int).toNat)  y true _ (zC (Kd.V_reads' l.out).2.2) ((Kd.V_reads' l.out).2.1) (zS j0) m0.out A8.out).mono ?_; rintro e e2 ⟨rfl, hb⟩; refine ⟨_, rfl, ?_⟩; have M0 := zK (Kd.V_below (zkV l) hb); have N0 := z8 hb; revert M0 N0; clear l HB; intro l HB; have n0 : 0 ≤ (y : Int) := z3; have o0 : y < (q.length : Int) := z3; obtain ⟨T1, G1, I1, J1, L1, e1, F0, G0, a0, b0, d0, e0⟩ := at_T57 (Kd.V_reads' l.out).2.2 y n0 o0; cases e1; obtain ⟨ce246, hce246, hMe246, hcc246⟩ := Kd.V_get l.out z57 y n0 (by first | exact o0 | exact z3 | (have e_ := (Kd.V_reads' l.out).1; omega)); obtain ⟨ua246_0, uc246_0, ua246_1, uc246_1, rfl, ul246_0, ge246_0, ul246_1, ge246_1⟩ := k57_openF hMe246; have J := hcc246 0 _ rfl; rw [Nat.add_zero] at J; replace J := z5 (J.symm.trans F0); injection J with hva_ hvn_ hvc_; rw [hva_] at ge246_0; rw [hvc_] at ul246_0; have HL246_0 := zK (show Kd.V (Kd.int .i64) 3 _ w.heap.size _ _ ((rd_T57 q y).f0) from Kd.V_mk ul246_0 ge246_0); clear hva_ hvn_ hvc_ ge246_0 ul246_0; have L := hcc246 1 _ rfl; rw [add_field _ _ 1 (by omega)] at L; replace L := z5 (L.symm.trans G0); injection L with hva_ hvn_ hvc_; rw [hva_] at ge246_1; rw [hvc_] at ul246_1; have HL246_1 := zK (show Kd.V (Kd.int .i64) 3 _ w.heap.size _ _ ((rd_T57 q y).f1) from Kd.V_mk ul246_1 ge246_1); clear hva_ hvn_ hvc_ ge246_1 ul246_1; clear hcc246 hce246; have n1 := zK b0; have o1 := zK a0; clear b0 a0; have p1 := zK e0; have q1 := zK d0; clear e0 d0; replace n0 := eq_true n0; replace o0 := eq_true o0))
 go_ret
 exact ⟨_, by first | rfl | (simp [errW_none, errW_some] <;> rfl) | (simp only [← hji3, ← hji5]; first | rfl | (simp [errW_none, errW_some] <;> rfl)) | (simp [*, errW_none, errW_some] <;> rfl), zkV HL246_1, zB⟩
def impl_Weights.f (k : Nat) (l : Int) (q : List (S57)) (B : List Int) : Option (List Int) := (impl_LmOk.f k l q).bind fun u => (if u = true then (if (B.length : Int) > 2000 then (some ([] : List Int)) else ((impl_sortedRows.f l q).bind fun y => ((impl_weigh.f k y B).bind fun z => ((slices_Clone_int_int.f z).bind fun A => (some A))))) else (some ([] : List Int)))
theorem impl_Weights.calls (k) (y) (I) (J) (q : List (S57)) (A1) (c1) (E : List Int) (r : List Int) (w) (c0 : Kd.C k57 w I q.length q) (d0 : q.length ≤ J) (o0 : Kd.C (Kd.int .i64) w A1 E.length E) (p0 : E.length ≤ c1) (h : impl_Weights.f k y q E = some r) :
 Calls Try.prog 21 #[.agg #[.int .i64 y, .slice I q.length J], .slice A1 E.length c1] w fun e w' => ∃ v0_ : Value, e = .returned (v0_) ∧ Kd.R (Kd.int .i64) 3 w' w.heap.size (fun _ => True) v0_ r ∧ Below w.heap.size w w' := by
 have d1 := Try.underlying29
 have e0 := zK c0
 have f0 := zK d0
 clear c0 d0
 have T0 := zK o0
 have U0 := zK p0
 clear o0 p0
 have HB := zK (Below.refl w.heap.size w)
 have H : ((impl_LmOk.f k y q).bind fun a0 => (if a0 = true then (if (E.length : Int) > 2000 then (some ([] : List Int)) else ((impl_sortedRows.f y q).bind fun L => ((impl_weigh.f k L E).bind fun M => ((slices_Clone_int_int.f M).bind fun b0 => (some b0))))) else (some ([] : List Int)))) = some r := h
 clear h
 replace H := z6 H
 obtain ⟨a0, q0, H⟩ := H
 have A3 := zK q0
 clear q0
 rcases zN (a0 = true) with c4 | c4
 replace c4 := Bool.eq_false_iff.mpr c4
 subst c4
 rw [if_neg (show ¬ (false = true) by decide)] at H
 obtain rfl := z5 H
 rotate_left
 subst c4
 rw [if_pos rfl] at H
 by_cases c5 : (E.length : Int) > 2000
 rw [if_pos c5] at H
 have y0 := z1 c5
 have A0 : decide (2000 < E.length) = true := z1 (by omega)
 clear c5
 obtain rfl := z5 H
 rotate_left
 rw [if_neg c5] at H
 have y0 := z2 c5
 have A0 : decide (2000 < E.length) = false := z2 (by omega)
 clear c5
 replace H := z6 H
 obtain ⟨L, s0, H⟩ := H
 have A9 := zK s0
 clear s0
 replace H := z6 H
 obtain ⟨M, j0, H⟩ := H
 have V0 := zK j0
 clear j0
 replace H := z6 H
 obtain ⟨b0, l0, H⟩ := H
 have X0 := zK l0
 clear l0
 obtain rfl := z5 H
 all_goals go_enter Try.func21, Try.ntmps21
 all_goals go_wp2_with (first | ((with_reducible refine gd 2 rfl ?_); (try (refine gate_guard (by rfl) ?_; dsimp only)); refine zJ 2 #[.int .i64 y, .slice I q.length J] 29 ?_; intro U hg g1 hbox hb; have A := z8 hb; have B := zK (hbox); have O := z9 hg; have X := z9 hg; revert A B O X; clear HB; intro HB l m0 b1; clear hb hbox hg; obtain ⟨I0, J0, L0, M0⟩ := zc2 l) | ((with_reducible refine gc 10 rfl ?_); refine zF 6 Try.func10 #[.agg #[.int .i64 y, .slice I q.length J]] rfl zL ?_; refine (impl_LmOk.calls k y _ _ q _ _ (zS e0) f0.out A3.out).mono ?_; rintro e i1 ⟨rfl, hb⟩; refine ⟨_, rfl, ?_⟩; have A := z7 l hb; have B := z8 hb; revert A B; clear l HB; intro l HB; obtain ⟨N0, O0, R0, S0⟩ := zc2 l) | ((with_reducible refine gc 33 rfl ?_); refine zF 14 Try.func33 #[.agg #[.int .i64 y, .slice I q.length J]] rfl zL ?_; refine (impl_sortedRows.calls y (fun k_ => k_ < w.heap.size) _ _ q L _ (Kd.V_mk f0.out (Kd.F_below (Kd.C_F k57_heap e0.out) zB)) A9.out).mono ?_; rintro e j1 ⟨v251, rfl, T, hb⟩; refine ⟨_, rfl, ?_⟩; have A := zK (Kd.N_lower (Kd.N_mono (ok' := fun k_ => k_ ≠ U) T (fun k_ hk_ => Or.elim hk_ (fun hs_ => fun e_ => Nat.not_le.2 hs_ (by rw [e_]; exact m0.out)) (fun hn_ => (Kd.freshB (zM l) k_ hn_)))) (zz zB)); have B := z7 l hb; have O := z8 hb; revert A B O; clear l HB; intro u l HB; obtain ⟨B0, C0, D0⟩ := Kd.N_slice u.out; subst D0) | ((with_reducible refine gc 46 rfl ?_); refine zF 16 Try.func46 #[.slice B0 L.length C0, .slice A1 E.length c1] rfl zL ?_; refine (impl_weigh.calls k (fun k_ => k_ ≠ U) _ _ L _ _ E M _ (Kd.N_V (u.out)) (zS T0) U0.out V0.out).mono ?_; rintro e m1 ⟨v254, rfl, T, hb⟩; refine ⟨_, rfl, ?_⟩; have A := zK (Kd.N_below (zkN u) hb); have B := zK (Kd.V_lower (Kd.V_mono (ok' := fun k_ => k_ ≠ U) T (fun k_ hk_ => Or.elim hk_ (fun hs_ => hs_) (fun hn_ => (Kd.freshB (zM l) k_ hn_)))) (zz zB)); have O := z7 l hb; have X := z8 hb; revert A B O X; clear u l HB; intro u z l HB; obtain ⟨E0, F0, G0⟩ := Kd.V_slice z.out; subst G0) | ((with_reducible refine gc 45 rfl ?_); refine zF 17 Try.func45 #[.slice E0 M.length F0] rfl zL ?_; refine (slices_Clone_int_int.calls _ _ M b0 _ (zC (Kd.V_reads' z.out).2.2) ((Kd.V_reads' z.out).2.1) X0.out).mono ?_; rintro e n1 ⟨v257, rfl, T, hb⟩; refine ⟨_, rfl, ?_⟩; have A := zK (Kd.N_elder' (zkN u) (Kd.R_base T) hb); have B := zK (Kd.V_elder' (zkV z) (Kd.R_base T) hb); have O := zK (Kd.R_lower T (zz zB)); have X := z7 l hb; have a1 := z8 hb; revert A B O X a1; clear u z l HB; intro u z n0 l HB))
 · go_ret
   exact ⟨_, zE, zkR n0, zB⟩
 all_goals go_ret
 all_goals exact ⟨_, zE, by first | exact Kd.R_nil _ _ _ _ _ | exact Kd.N_nil _ _ _ _ _ | exact Kd.V_nil _ _ _ _ _ | exact Kd.Q_nil _ _ _ _ _ | exact Kd.S_nil _ _ _ _ _, zB⟩
def laws_markIntS.l0 : Nat → List Int → Int → Int → Option (Int × List Int)
 | 0, _, _, _ => none
 | k + 1, q, u, l => if l < (q.length : Int) then (if 0 ≤ l then (laws_markIntS.l0 k (q.set (l : Int).toNat u) (wrap64 (u + 1)) (wrap64 (l + 1))) else (none)) else (some (u, q))
def laws_markIntS.f (k : Nat) (l : List Int) (q : Int) : Option (Int × List Int) := laws_markIntS.l0 k l q 0
theorem laws_markIntS.calls (k) (y : Nat → Prop) (u9000_ : Value) (I : List Int) (L) (r1) (r2 : List Int) (w0 w : World) (hB : Below w0.heap.size w0 w) (d0 : Kd.R (Kd.int .i64) 3 w w0.heap.size y u9000_ I) (h : laws_markIntS.f k I L = some (r1, r2)) :
 Calls Try.prog 24 #[u9000_, .int .i64 L] w fun e w' => e = .returned (.int .i64 r1) ∧ Kd.R (Kd.int .i64) 3 w' w0.heap.size (fun k_ => (y k_ ∨ w.heap.size ≤ k_)) u9000_ r2 ∧ Below w0.heap.size w0 w' ∧ Kept w w' (fun k_ => y k_) := by
 have e0 := zK (show Kd.R (Kd.int .i64) 3 w w0.heap.size (fun k_ => (y k_ ∨ w.heap.size ≤ k_)) u9000_ I from Kd.R_mono d0 (fun k_ hk => (.inl hk)))
 have HK := zK (Kept.refl w (fun k_ => y k_))
 have HW0 := zK hB.size
 have HB := zK hB
 clear hB
 have H : (laws_markIntS.l0 k I L 0) = some (r1, r2) := h
 clear h
 have H' := zK H
 clear H
 go_enter Try.func24, Try.ntmps24
 go_wp2
 go_loopg [1, 5] k (fun kq v1 v5 w' => ∃ (z : List Int) (u : Int) (l : Int), v1 = .int .i64 u ∧ v5 = .int .i64 l ∧ Aside0 (laws_markIntS.l0 kq z u l = some (r1, r2)) ∧ Aside0 (kq ≤ k) ∧ Aside0 (Kd.R (Kd.int .i64) 3 w' w0.heap.size (fun k_ => (y k_ ∨ w.heap.size ≤ k_)) u9000_ z) ∧ Aside0 (Kept w w' (fun k_ => y k_)) ∧ Aside0 (Below w0.heap.size w0 w'))
 case atStart => exact ⟨(I), (L), (0), zR, zR, H', ⟨Nat.le_refl _⟩, ⟨zkR e0⟩, ⟨by repeat (first | (with_reducible first | exact HK.out | apply Kept.alloc | apply Kept.drewN | apply Kept.drew) | exact HK.out)⟩, ⟨zB⟩⟩
 clear H'
 try clear c2
 try clear p2
 obtain ⟨z, u, l, rfl, rfl, HA, O, q, HK, HB⟩ := hrel
 rcases gk with _ | k1
 · exact absurd HA.out (by simp [laws_markIntS.l0])
 have H := HA.out
 clear HA
 simp only [laws_markIntS.l0] at H
 by_cases E : l < (z.length : Int)
 rotate_left
 · rw [if_neg E] at H
   have X := z2 E
   clear E
   simp only [Option.some.injEq, Prod.mk.injEq] at H
   obtain ⟨rfl, rfl⟩ := H
   obtain ⟨q0, s0, f0⟩ := Kd.R_slice q.out
   subst f0
   go_wp2
   go_ret
   exact ⟨zE, zkR q, zB, by repeat (first | (with_reducible first | exact HK.out | apply Kept.alloc | apply Kept.drewN | apply Kept.drew) | exact HK.out)⟩
 rw [if_pos E] at H
 have X := z1 E
 clear E
 by_cases M : 0 ≤ l
 rotate_left
 · rw [if_neg M] at H
   exact absurd H (by simp)
 rw [if_pos M] at H
 have p0 := z1 M
 clear M
 obtain ⟨B, A⟩ : ∃ y_ : List Int, y_ = (z.set (l : Int).toNat u) := ⟨_, rfl⟩
 replace H : (laws_markIntS.l0 k1 B (wrap64 (u + 1)) (wrap64 (l + 1))) = some (r1, r2) := by first | (rw [A]; with_reducible exact H) | (have J := (Option.bind_some _ _).symm.trans H; rw [A]; with_reducible exact J) | (have J := (Option.bind_some _ _).symm.trans H; with_reducible exact J) | with_reducible exact H | (rw [A]; exact H) | exact H
 have Ny259 := zK A
 clear A
 have H' := zK H
 clear H
 obtain ⟨t0, g0, i0⟩ := Kd.R_slice q.out
 subst i0
 have p5 : 0 ≤ (l : Int) := z3
 have q5 : (l : Int) < ((z.length : Int) : Int) := z3
 obtain ⟨go5, x0, T, U, gl5, cl5, HG5⟩ := Kd.R_form q.out (by omega)
 (first | cases T | (injection T with ea_ en_ ec_; (first | subst ea_ | (injection ea_ with ea_; subst ea_)); subst ec_; clear en_))
 have GB5 := zK U
 have GG5 := zK HG5
 clear U gl5 HG5
 have HMgo5 := zK (show (y go5 ∨ w.heap.size ≤ go5) from (q.out.1 _ rfl))
 obtain ⟨o0, hf5_0⟩ := Kd.R_celln 0 q.out (l : Int) p5 q5
 replace p5 := eq_true p5
 replace q5 := eq_true q5
 have HP7 := Kd.R_putg q.out (l : Int) u
 go_wp2_with (first | ((with_reducible refine gate_store (t := 3) (p := 15) rfl ?_); refine store_event (t := 3) (p := 15) (v := ?vo_w8) (w1 := (wr.setCell ⟨go5, (l : Int).toNat, none⟩ (.int .i64 u))) ?hg ?ho ?hn ?hr ?_; (case ho => rfl); (case hg => rfl); (case hn => rfl); (case hr => first | (go_simp; done) | (go_simp; rfl)); intro w8 hw; have hg : wr.grownBy w8 (some go5) := (by rw [hw]; exact HP7.2); have hp_ : Kd.R (Kd.int .i64) 3 w8 w0.heap.size (fun k_ => (y k_ ∨ w.heap.size ≤ k_)) (.slice (some ⟨go5, 0, none⟩) z.length g0) B := (by rw [hw, Ny259.out]; exact HP7.1); clear HP7; have j0 := zK (hp_); have m0 := zK ((by rw [hw]; exact zs (HB.out) GB5.out : Below w0.heap.size w0 w8)); have n0 := zK (Kept.of_grown (S := (fun k_ => y k_)) hg (by repeat (first | (with_reducible first | exact HK.out | apply Kept.alloc | apply Kept.drewN | apply Kept.drew) | exact HK.out)) (fun k_ e_ => (q.out.1 k_ e_))); revert j0 m0 n0; clear q HB HK; intro q HB HK; clear hg hw hp_))
 go_roundg k1
 case measure => have := O.out; omega
 case rel => exact ⟨(B), (wrap64 (u + 1)), (wrap64 (l + 1)), zR, zR, H', ⟨by have := O.out; omega⟩, ⟨zkR q⟩, ⟨by repeat (first | (with_reducible first | exact HK.out | apply Kept.alloc | apply Kept.drewN | apply Kept.drew) | exact HK.out)⟩, ⟨zB⟩⟩
-- NOT PRINTED: function 47 (laws_markRowS)
def laws_markLm.f (q : Int) (l : List (S57)) (u : Int) : Option (Int) := Marks.markF l u
def laws_heldIntS.l0 : Nat → List Int → Int → Int → Option (Int)
 | 0, _, _, _ => none
 | k + 1, q, u, l => if l < (q.length : Int) then (if 0 ≤ l then (if (rd q l) = u then (laws_heldIntS.l0 k q (wrap64 (u + 1)) (wrap64 (l + 1))) else (some (-1))) else (none)) else (some u)
def laws_heldIntS.f (k : Nat) (l : List Int) (q : Int) : Option (Int) := laws_heldIntS.l0 k l q 0
theorem laws_heldIntS.calls (k) (A0) (c0) (y : List Int) (J) (r) (w) (O : Kd.C (Kd.int .i64) w A0 y.length y) (T : y.length ≤ c0) (h : laws_heldIntS.f k y J = some r) :
 Calls Try.prog 25 #[.slice A0 y.length c0, .int .i64 J] w fun e w' => e = .returned (.int .i64 r) ∧ Drawn0 w w' := by
 have U := zK O
 have i0 := zK T
 clear O T
 have H : (laws_heldIntS.l0 k y J 0) = some r := h
 clear h
 have H' := zK H
 clear H
 go_enter Try.func25, Try.ntmps25
 go_wp2
 go_loopg [1, 5] k (fun kq v1 v5 w' => ∃ (z : Int) (l : Int), v1 = .int .i64 z ∧ v5 = .int .i64 l ∧ Aside0 (laws_heldIntS.l0 kq y z l = some r) ∧ Aside0 (kq ≤ k) ∧ Drawn0 w w')
 case atStart => exact ⟨(J), (0), zR, zR, H', ⟨Nat.le_refl _⟩, zD⟩
 clear H'
 try clear c2
 try clear p2
 obtain ⟨z, l, rfl, rfl, HA, X, ⟨m1, rfl⟩⟩ := hrel
 rcases gk with _ | k1
 · exact absurd HA.out (by simp [laws_heldIntS.l0])
 have H := HA.out
 clear HA
 simp only [laws_heldIntS.l0] at H
 by_cases E : l < (y.length : Int)
 rotate_left
 · rw [if_neg E] at H
   have a0 := z2 E
   clear E
   obtain rfl := z5 H
   go_wp2
   go_ret
   exact ⟨zR, zD⟩
 rw [if_pos E] at H
 have a0 := z1 E
 clear E
 by_cases L : 0 ≤ l
 rotate_left
 · rw [if_neg L] at H
   exact absurd H (by simp)
 rw [if_pos L] at H
 have g0 := z1 L
 clear L
 by_cases A : (rd y l) = z
 rotate_left
 · rw [if_neg A] at H
   have b0 := beq_eq_false_iff_ne.mpr A
   have d0 := bne_iff_ne.mpr A
   obtain rfl := z5 H
   have q : 0 ≤ (l : Int) := z3
   have u : l < (y.length : Int) := z3
   obtain ⟨M, B, I⟩ := Kd.at_int U.out l q u
   cases B
   replace q := eq_true q
   replace u := eq_true u
   go_wp2
   go_ret
   exact ⟨zR, zD⟩
 rw [if_pos A] at H
 have b0 := beq_iff_eq.mpr A
 have d0 := bne_eq_false_iff_eq.mpr A
 clear A
 have H' := zK H
 clear H
 have q : 0 ≤ (l : Int) := z3
 have u : l < (y.length : Int) := z3
 obtain ⟨M, B, I⟩ := Kd.at_int U.out l q u
 cases B
 replace q := eq_true q
 replace u := eq_true u
 go_wp2
 go_roundg k1
 case measure => have := X.out; omega
 case rel => exact ⟨(wrap64 (z + 1)), (wrap64 (l + 1)), zR, zR, H', ⟨by have := X.out; omega⟩, zD⟩
end Go.Proofs.Ytdlhmhgpafegpaa.PFnExactWeights
