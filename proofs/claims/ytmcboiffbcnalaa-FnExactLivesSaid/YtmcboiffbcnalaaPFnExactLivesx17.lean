-- Printed out of the translation by this session's own turned copy of a printer; Lean checks it.
import Derived.Test.YtmcboiffbcnalaaPFnExactLivesx0
namespace Go.Proofs.Ytmcboiffbcnalaa.PFnExactLives
open Go.RowKit Go.Proofs.YtmcboiffbcnalaaW.PrintWords Go.Proofs.YtmcboiffbcnalaaW.PrintLast Go.Proofs.YtmcboiffbcnalaaW.PrintMore
attribute [local go_sem] max2_int min2_int max_two min_two max_three min_three max_four min_four
set_option linter.unusedVariables false
set_option linter.unusedSimpArgs false
set_option maxHeartbeats 8000000
set_option maxRecDepth 100000
def impl_truth.f (l : Bool) : Option (Int) := if l = true then (some 1) else (some 0)
theorem impl_truth.calls (l : Bool) (r) (w) (h : impl_truth.f l = some r) :
 Calls Try.prog 71 #[.bool l] w fun e w' => e = .returned (.int .i64 r) ∧ Drawn0 w w' := by
 have H : (if l = true then (some 1) else (some 0)) = some r := h
 clear h
 by_cases q : l = true
 · subst q
   rw [if_pos rfl] at H
   obtain rfl := z5 H
   go_enter Try.func71, Try.ntmps71
   go_wp2
   go_ret
   exact ⟨zR, zD⟩
 replace q := Bool.eq_false_iff.mpr q
 subst q
 rw [if_neg (show ¬ (false = true) by decide)] at H
 obtain rfl := z5 H
 go_enter Try.func71, Try.ntmps71
 go_wp2
 go_ret
 exact ⟨zR, zD⟩
def impl_Kernel_loadsOf.l0 : Nat → Int → Int → List (S76) → Int → Int → Option (Int)
 | 0, _, _, _, _, _ => none
 | k + 1, z, A, u, q, l => if l < q then (if 0 ≤ l then (if l < (u.length : Int) then ((impl_truth.f (((rd_T76 u l).f0) == z)).bind fun y => (impl_Kernel_loadsOf.l0 k z (wrap64 (A + y)) u q (wrap64 (l + 1)))) else (none)) else (none)) else (some A)
def impl_Kernel_loadsOf.f (k : Nat) (q : List Int) (l : List (S76)) (u : Int) (y : Int) (z : List Int) (A : Bool) (B : List (S122)) (E : Int) : Option (Int) := impl_Kernel_loadsOf.l0 k E 0 l (l.length : Int) 0
theorem impl_Kernel_loadsOf.calls (k) (M) (O) (y : List Int) (T) (U) (l : List (S76)) (X) (a0) (b0) (c0) (z : List Int) (d0 : Bool) (e0) (g0) (A : List (S122)) (a1) (r) (w) (p0 : Kd.C (Kd.int .i64) w M y.length y) (q0 : y.length ≤ O) (s0 : Kd.C k76 w T l.length l) (t0 : l.length ≤ U) (x0 : Kd.C (Kd.int .i64) w b0 z.length z) (y0 : z.length ≤ c0) (A0 : Kd.C k122 w e0 A.length A) (B0 : A.length ≤ g0) (h : impl_Kernel_loadsOf.f k y l X a0 z d0 A a1 = some r) :
 Calls Try.prog 49 #[.agg #[.slice M y.length O, .slice T l.length U, .int .i64 X, .int .i64 a0, .slice b0 z.length c0, .bool d0, .slice e0 A.length g0], .int .i64 a1] w fun e w' => e = .returned (.int .i64 r) ∧ Below w.heap.size w w' := by
 have e2 := Try.underlying79
 have f2 := Try.underlying76
 have J1 := zK p0
 have L1 := zK q0
 clear p0 q0
 have f1 := zK s0
 have M1 := zK t0
 clear s0 t0
 have N1 := zK x0
 have O1 := zK y0
 clear x0 y0
 have R1 := zK A0
 have S1 := zK B0
 clear A0 B0
 have HB := zK (Below.refl w.heap.size w)
 have H : (impl_Kernel_loadsOf.l0 k a1 0 l (l.length : Int) 0) = some r := h
 clear h
 have H' := zK H
 clear H
 go_enter Try.func49, Try.ntmps49
 go_wp2_with (first | ((with_reducible refine gd 2 rfl ?_); refine zJ 2 #[.slice M y.length O, .slice T l.length U, .int .i64 X, .int .i64 a0, .slice b0 z.length c0, .bool d0, .slice e0 A.length g0] 79 ?_; intro g1 hg w3 hbox hb; have E0 := z8 hb; have F0 := zK (hbox); have G0 := z9 hg; have I0 := z9 hg; revert E0 F0 G0 I0; clear HB; intro HB u T1 U1; clear hb hbox hg; obtain ⟨J0, L0, M0, N0, O0, R0, S0, T0, U0, V0, X0, b1, c1, d1⟩ := zc7 u))
 go_loopg [5, 11] k (fun kq v5 v11 w' => ∃ (i0 : Int) (q : Int), v5 = .int .i64 i0 ∧ v11 = .int .i64 q ∧ Aside0 (impl_Kernel_loadsOf.l0 kq a1 i0 l (l.length : Int) q = some r) ∧ Aside0 (kq ≤ k) ∧ Aside0 (w'.heap[g1]? = some (.cells #[(.slice M y.length O), (.slice T l.length U), .int .i64 X, .int .i64 a0, (.slice b0 z.length c0), .bool d0, (.slice e0 A.length g0)] 79 (0, 0))) ∧ Aside0 (Below w.heap.size w w'))
 case atStart => exact ⟨(0), (0), zR, zR, H', ⟨Nat.le_refl _⟩, ⟨zM u⟩, ⟨zB⟩⟩
 clear H'
 try clear p2
 try clear c4
 try clear J0 L0 M0 N0 O0 R0 S0 T0 U0 V0 X0 b1 c1 d1
 obtain ⟨i0, q, rfl, rfl, HA, m1, u, HB⟩ := hrel
 rcases gk with _ | k1
 · exact absurd HA.out (by simp [impl_Kernel_loadsOf.l0])
 have H := HA.out
 clear HA
 simp only [impl_Kernel_loadsOf.l0] at H
 by_cases c5 : q < (l.length : Int)
 rotate_left
 · rw [if_neg c5] at H
   have o1 := z2 c5
   clear c5
   obtain rfl := z5 H
   go_wp2
   go_ret
   exact ⟨zE, zB⟩
 rw [if_pos c5] at H
 have o1 := z1 c5
 clear c5
 by_cases c6 : 0 ≤ q
 rotate_left
 · rw [if_neg c6] at H
   exact absurd H (by simp)
 rw [if_pos c6] at H
 have g2 := z1 c6
 clear c6
 by_cases c7 : q < (l.length : Int)
 rotate_left
 · rw [if_neg c7] at H
   exact absurd H (by simp)
 rw [if_pos c7] at H
 have i2 := z1 c7
 clear c7
 replace H := z6 H
 obtain ⟨e1, n1, H⟩ := H
 have A8 := zK n1
 clear n1
 have H' := zK H
 clear H
 have n0 : 0 ≤ (q : Int) := z3
 have o0 : q < (l.length : Int) := z3
 obtain ⟨V1, D1, E1, p1, B, E, I, J, L⟩ := at_T76 f1.out q n0 o0
 cases p1
 (try replace B := zX HB B)
 (try replace E := zX HB E)
 (try replace I := zX HB I)
 have q1 := zK L
 have s1 := zK J
 clear L J
 replace n0 := eq_true n0
 replace o0 := eq_true o0
 go_wp2_with (first | ((with_reducible refine gd 7 rfl ?_); refine zJ 7 #[.int .i64 0, .int .i64 0, .slice none 0 0] 76 ?_; intro X1 hg w9 hbox hb; have E0 := z7 u hb; have F0 := z8 hb; have G0 := zK (hbox); have I0 := z9 hg; have F1 := z9 hg; have G1 := zHH hg u; have I1 := zGG hg u; revert E0 F0 G0 I0 F1 G1 I1; clear u HB; intro u HB l1 a2 b2 j0 m0; clear hb hbox hg; have c2 := m0.out; have d2 := j0.out; obtain ⟨t1, x1, y1, A1, B1, C1⟩ := zc3 l1) | ((with_reducible refine gc 71 rfl ?_); refine zF 20 Try.func71 #[.bool (((rd_T76 l q).f0) == a1)] rfl zL ?_; (with_reducible refine (impl_truth.calls (((rd_T76 l q).f0) == a1) e1 _ A8.out).mono ?_); rintro e w' ⟨rfl, ⟨nd, rfl⟩⟩; refine ⟨_, rfl, ?_⟩))
 go_roundg k1
 case measure => have := m1.out; omega
 case rel => exact ⟨(wrap64 (i0 + e1)), (wrap64 (q + 1)), zR, zR, H', ⟨by have := m1.out; omega⟩, ⟨zV u⟩, ⟨zB⟩⟩
def slices_Index_int_int.l0 : Nat → List Int → Int → Int → Int → Option (Int)
 | 0, _, _, _, _ => none
 | k + 1, q, u, y, l => if l < y then (if 0 ≤ l then (if l < (q.length : Int) then (if u = (rd q l) then (some l) else (slices_Index_int_int.l0 k q u y (wrap64 (l + 1)))) else (none)) else (none)) else (some (-1))
def slices_Index_int_int.f (k : Nat) (l : List Int) (q : Int) : Option (Int) := slices_Index_int_int.l0 k l q (l.length : Int) 0
theorem slices_Index_int_int.calls (k) (A0) (c0) (y : List Int) (I) (r) (w) (O : Kd.C (Kd.int .i64) w A0 y.length y) (T : y.length ≤ c0) (h : slices_Index_int_int.f k y I = some r) :
 Calls Try.prog 72 #[.slice A0 y.length c0, .int .i64 I] w fun e w' => e = .returned (.int .i64 r) ∧ Drawn0 w w' := by
 have U := zK O
 have j0 := zK T
 clear O T
 have H : (slices_Index_int_int.l0 k y I (y.length : Int) 0) = some r := h
 clear h
 have H' := zK H
 clear H
 go_enter Try.func72, Try.ntmps72
 go_wp2
 go_loopg [8] k (fun kq v8 w' => ∃ (l : Int), v8 = .int .i64 l ∧ Aside0 (slices_Index_int_int.l0 kq y I (y.length : Int) l = some r) ∧ Aside0 (kq ≤ k) ∧ Drawn0 w w')
 case atStart => exact ⟨(0), zR, H', ⟨Nat.le_refl _⟩, zD⟩
 clear H'
 try clear p2
 obtain ⟨l, rfl, HA, X, ⟨m1, rfl⟩⟩ := hrel
 rcases gk with _ | k1
 · exact absurd HA.out (by simp [slices_Index_int_int.l0])
 have H := HA.out
 clear HA
 simp only [slices_Index_int_int.l0] at H
 by_cases B : l < (y.length : Int)
 rotate_left
 · rw [if_neg B] at H
   have a0 := z2 B
   clear B
   obtain rfl := z5 H
   go_wp2
   go_ret
   exact ⟨zR, zD⟩
 rw [if_pos B] at H
 have a0 := z1 B
 clear B
 by_cases J : 0 ≤ l
 rotate_left
 · rw [if_neg J] at H
   exact absurd H (by simp)
 rw [if_pos J] at H
 have g0 := z1 J
 clear J
 by_cases L : l < (y.length : Int)
 rotate_left
 · rw [if_neg L] at H
   exact absurd H (by simp)
 rw [if_pos L] at H
 have i0 := z1 L
 clear L
 by_cases z : I = (rd y l)
 · rw [if_pos z] at H
   have b0 := beq_iff_eq.mpr z
   have d0 := bne_eq_false_iff_eq.mpr z
   clear z
   obtain rfl := z5 H
   have q : 0 ≤ (l : Int) := z3
   have u : l < (y.length : Int) := z3
   obtain ⟨M, A, E⟩ := Kd.at_int U.out l q u
   cases A
   replace q := eq_true q
   replace u := eq_true u
   go_wp2
   go_ret
   exact ⟨zR, zD⟩
 rw [if_neg z] at H
 have b0 := beq_eq_false_iff_ne.mpr z
 have d0 := bne_iff_ne.mpr z
 have H' := zK H
 clear H
 have q : 0 ≤ (l : Int) := z3
 have u : l < (y.length : Int) := z3
 obtain ⟨M, A, E⟩ := Kd.at_int U.out l q u
 cases A
 replace q := eq_true q
 replace u := eq_true u
 go_wp2
 go_roundg k1
 case measure => have := X.out; omega
 case rel => exact ⟨(wrap64 (l + 1)), zR, H', ⟨by have := X.out; omega⟩, zD⟩
def slices_Contains_int_int.f (k : Nat) (q : List Int) (u : Int) : Option (Bool) := (slices_Index_int_int.f k q u).bind fun l => (some (decide (l ≥ 0)))
theorem slices_Contains_int_int.calls (k) (B) (E) (l : List Int) (u) (r : Bool) (w) (y : Kd.C (Kd.int .i64) w B l.length l) (z : l.length ≤ E) (h : slices_Contains_int_int.f k l u = some r) :
 Calls Try.prog 50 #[.slice B l.length E, .int .i64 u] w fun e w' => e = .returned (.bool r) ∧ Drawn0 w w' := by
 have I := zK y
 have J := zK z
 clear y z
 have H : ((slices_Index_int_int.f k l u).bind fun q => (some (decide (q ≥ 0)))) = some r := h
 clear h
 replace H := z6 H
 obtain ⟨q, A, H⟩ := H
 have L := zK A
 clear A
 obtain rfl := z5 H
 go_enter Try.func50, Try.ntmps50
 go_wp2_with (first | ((with_reducible refine gc 72 rfl ?_); refine zF 7 Try.func72 #[.slice B l.length E, .int .i64 u] rfl zL ?_; refine (slices_Index_int_int.calls k _ _ l u q _ (zC I.out) J.out L.out).mono ?_; rintro e w' ⟨rfl, ⟨nd, rfl⟩⟩; refine ⟨_, rfl, ?_⟩))
 go_ret
 exact ⟨zR, zD⟩
end Go.Proofs.Ytmcboiffbcnalaa.PFnExactLives
