-- Printed out of the translation by this session's own turned copy of a printer; Lean checks it.
import Derived.Test.YtmcboiffbcnalaaPFnExactPlanOkx0
namespace Go.Proofs.Ytmcboiffbcnalaa.PFnExactPlanOk
open Go.RowKit Go.Proofs.YtmcboiffbcnalaaW.PrintWords Go.Proofs.YtmcboiffbcnalaaW.PrintLast Go.Proofs.YtmcboiffbcnalaaW.PrintMore
attribute [local go_sem] max2_int min2_int max_two min_two max_three min_three max_four min_four
set_option linter.unusedVariables false
set_option linter.unusedSimpArgs false
set_option maxHeartbeats 8000000
set_option maxRecDepth 100000
def impl_truth.f (a : Bool) : Option (Int) := if a = true then (some 1) else (some 0)
theorem impl_truth.calls (a : Bool) (r) (w) (h : impl_truth.f a = some r) :
 Calls Try.prog 71 #[.bool a] w fun e w' => e = .returned (.int .i64 r) ∧ Drawn0 w w' := by
 have H : (if a = true then (some 1) else (some 0)) = some r := h
 clear h
 by_cases l : a = true
 · subst l
   rw [if_pos rfl] at H
   obtain rfl := z5 H
   go_enter Try.func71, Try.ntmps71
   go_wp2
   go_ret
   exact ⟨zR, zD⟩
 replace l := Bool.eq_false_iff.mpr l
 subst l
 rw [if_neg (show ¬ (false = true) by decide)] at H
 obtain rfl := z5 H
 go_enter Try.func71, Try.ntmps71
 go_wp2
 go_ret
 exact ⟨zR, zD⟩
def impl_Kernel_loadsOf.l0 : Nat → Int → Int → List (S76) → Int → Int → Option (Int)
 | 0, _, _, _, _, _ => none
 | k + 1, x, y, q, l, a => if a < l then (if 0 ≤ a then (if a < (q.length : Int) then ((impl_truth.f (((rd_T76 q a).f0) == x)).bind fun u => (impl_Kernel_loadsOf.l0 k x (wrap64 (y + u)) q l (wrap64 (a + 1)))) else (none)) else (none)) else (some y)
def impl_Kernel_loadsOf.f (k : Nat) (l : List Int) (a : List (S76)) (q : Int) (u : Int) (x : List Int) (y : Bool) (z : List (S122)) (A : Int) : Option (Int) := impl_Kernel_loadsOf.l0 k A 0 a (a.length : Int) 0
theorem impl_Kernel_loadsOf.calls (k) (I) (J) (u : List Int) (L) (M) (a : List (S76)) (O) (T) (U) (X) (x : List Int) (a0 : Bool) (b0) (c0) (y : List (S122)) (a1) (r) (w) (m0 : Kd.C (Kd.int .i64) w I u.length u) (n0 : u.length ≤ J) (o0 : Kd.C k76 w L a.length a) (p0 : a.length ≤ M) (q0 : Kd.C (Kd.int .i64) w U x.length x) (s0 : x.length ≤ X) (t0 : Kd.C k122 w b0 y.length y) (x0 : y.length ≤ c0) (h : impl_Kernel_loadsOf.f k u a O T x a0 y a1 = some r) :
 Calls Try.prog 49 #[.agg #[.slice I u.length J, .slice L a.length M, .int .i64 O, .int .i64 T, .slice U x.length X, .bool a0, .slice b0 y.length c0], .int .i64 a1] w fun e w' => e = .returned (.int .i64 r) ∧ Below w.heap.size w w' := by
 have b2 := Try.underlying79
 have c2 := Try.underlying76
 have F1 := zK m0
 have G1 := zK n0
 clear m0 n0
 have c1 := zK o0
 have I1 := zK p0
 clear o0 p0
 have J1 := zK q0
 have L1 := zK s0
 clear q0 s0
 have M1 := zK t0
 have N1 := zK x0
 clear t0 x0
 have HB := zK (Below.refl w.heap.size w)
 have H : (impl_Kernel_loadsOf.l0 k a1 0 a (a.length : Int) 0) = some r := h
 clear h
 have H' := zK H
 clear H
 go_enter Try.func49, Try.ntmps49
 go_wp2_with (first | ((with_reducible refine gd 2 rfl ?_); refine zJ 2 #[.slice I u.length J, .slice L a.length M, .int .i64 O, .int .i64 T, .slice U x.length X, .bool a0, .slice b0 y.length c0] 79 ?_; intro d1 hg w3 hbox hb; have B0 := z8 hb; have C0 := zK (hbox); have D0 := z9 hg; have E0 := z9 hg; revert B0 C0 D0 E0; clear HB; intro HB q O1 R1; clear hb hbox hg; obtain ⟨F0, G0, I0, J0, L0, M0, N0, O0, R0, S0, T0, U0, V0, X0⟩ := zc7 q))
 go_loopg [5, 11] k (fun kq v5 v11 w' => ∃ (d0 : Int) (l : Int), v5 = .int .i64 d0 ∧ v11 = .int .i64 l ∧ Aside0 (impl_Kernel_loadsOf.l0 kq a1 d0 a (a.length : Int) l = some r) ∧ Aside0 (kq ≤ k) ∧ Aside0 (w'.heap[d1]? = some (.cells #[(.slice I u.length J), (.slice L a.length M), .int .i64 O, .int .i64 T, (.slice U x.length X), .bool a0, (.slice b0 y.length c0)] 79 (0, 0))) ∧ Aside0 (Below w.heap.size w w'))
 case atStart => exact ⟨(0), (0), zR, zR, H', ⟨Nat.le_refl _⟩, ⟨zM q⟩, ⟨zB⟩⟩
 clear H'
 try clear p2
 try clear c4
 try clear F0 G0 I0 J0 L0 M0 N0 O0 R0 S0 T0 U0 V0 X0
 obtain ⟨d0, l, rfl, rfl, HA, i1, q, HB⟩ := hrel
 rcases gk with _ | k1
 · exact absurd HA.out (by simp [impl_Kernel_loadsOf.l0])
 have H := HA.out
 clear HA
 simp only [impl_Kernel_loadsOf.l0] at H
 by_cases c5 : l < (a.length : Int)
 rotate_left
 · rw [if_neg c5] at H
   have l1 := z2 c5
   clear c5
   obtain rfl := z5 H
   go_wp2
   go_ret
   exact ⟨zE, zB⟩
 rw [if_pos c5] at H
 have l1 := z1 c5
 clear c5
 by_cases c6 : 0 ≤ l
 rotate_left
 · rw [if_neg c6] at H
   exact absurd H (by simp)
 rw [if_pos c6] at H
 have d2 := z1 c6
 clear c6
 by_cases c7 : l < (a.length : Int)
 rotate_left
 · rw [if_neg c7] at H
   exact absurd H (by simp)
 rw [if_pos c7] at H
 have e2 := z1 c7
 clear c7
 replace H := z6 H
 obtain ⟨b1, j1, H⟩ := H
 have A8 := zK j1
 clear j1
 have H' := zK H
 clear H
 have i0 : 0 ≤ (l : Int) := z3
 have j0 : l < (a.length : Int) := z3
 obtain ⟨S1, A1, B1, m1, z, A, B, D, E⟩ := at_T76 c1.out l i0 j0
 cases m1
 (try replace z := zX HB z)
 (try replace A := zX HB A)
 (try replace B := zX HB B)
 have n1 := zK E
 have o1 := zK D
 clear E D
 replace i0 := eq_true i0
 replace j0 := eq_true j0
 go_wp2_with (first | ((with_reducible refine gd 7 rfl ?_); refine zJ 7 #[.int .i64 0, .int .i64 0, .slice none 0 0] 76 ?_; intro T1 hg w9 hbox hb; have B0 := z7 q hb; have C0 := z8 hb; have D0 := zK (hbox); have E0 := z9 hg; have C1 := z9 hg; have D1 := zHH hg q; have E1 := zGG hg q; revert B0 C0 D0 E0 C1 D1 E1; clear q HB; intro q HB g1 U1 V1 e0 g0; clear hb hbox hg; have X1 := g0.out; have a2 := e0.out; obtain ⟨p1, q1, s1, t1, x1, y1⟩ := zc3 g1) | ((with_reducible refine gc 71 rfl ?_); refine zF 20 Try.func71 #[.bool (((rd_T76 a l).f0) == a1)] rfl zL ?_; (with_reducible refine (impl_truth.calls (((rd_T76 a l).f0) == a1) b1 _ A8.out).mono ?_); rintro e w' ⟨rfl, ⟨nd, rfl⟩⟩; refine ⟨_, rfl, ?_⟩))
 go_roundg k1
 case measure => have := i1.out; omega
 case rel => exact ⟨(wrap64 (d0 + b1)), (wrap64 (l + 1)), zR, zR, H', ⟨by have := i1.out; omega⟩, ⟨zV q⟩, ⟨zB⟩⟩
def slices_Index_int_int.l0 : Nat → List Int → Int → Int → Int → Option (Int)
 | 0, _, _, _, _ => none
 | k + 1, l, q, u, a => if a < u then (if 0 ≤ a then (if a < (l.length : Int) then (if q = (rd l a) then (some a) else (slices_Index_int_int.l0 k l q u (wrap64 (a + 1)))) else (none)) else (none)) else (some (-1))
def slices_Index_int_int.f (k : Nat) (a : List Int) (l : Int) : Option (Int) := slices_Index_int_int.l0 k a l (a.length : Int) 0
theorem slices_Index_int_int.calls (k) (A0) (c0) (u : List Int) (B) (r) (w) (J : Kd.C (Kd.int .i64) w A0 u.length u) (L : u.length ≤ c0) (h : slices_Index_int_int.f k u B = some r) :
 Calls Try.prog 72 #[.slice A0 u.length c0, .int .i64 B] w fun e w' => e = .returned (.int .i64 r) ∧ Drawn0 w w' := by
 have M := zK J
 have f0 := zK L
 clear J L
 have H : (slices_Index_int_int.l0 k u B (u.length : Int) 0) = some r := h
 clear h
 have H' := zK H
 clear H
 go_enter Try.func72, Try.ntmps72
 go_wp2
 go_loopg [8] k (fun kq v8 w' => ∃ (a : Int), v8 = .int .i64 a ∧ Aside0 (slices_Index_int_int.l0 kq u B (u.length : Int) a = some r) ∧ Aside0 (kq ≤ k) ∧ Drawn0 w w')
 case atStart => exact ⟨(0), zR, H', ⟨Nat.le_refl _⟩, zD⟩
 clear H'
 try clear p2
 obtain ⟨a, rfl, HA, O, ⟨m1, rfl⟩⟩ := hrel
 rcases gk with _ | k1
 · exact absurd HA.out (by simp [slices_Index_int_int.l0])
 have H := HA.out
 clear HA
 simp only [slices_Index_int_int.l0] at H
 by_cases z : a < (u.length : Int)
 rotate_left
 · rw [if_neg z] at H
   have T := z2 z
   clear z
   obtain rfl := z5 H
   go_wp2
   go_ret
   exact ⟨zR, zD⟩
 rw [if_pos z] at H
 have T := z1 z
 clear z
 by_cases D : 0 ≤ a
 rotate_left
 · rw [if_neg D] at H
   exact absurd H (by simp)
 rw [if_pos D] at H
 have d0 := z1 D
 clear D
 by_cases E : a < (u.length : Int)
 rotate_left
 · rw [if_neg E] at H
   exact absurd H (by simp)
 rw [if_pos E] at H
 have e0 := z1 E
 clear E
 by_cases x : B = (rd u a)
 · rw [if_pos x] at H
   have U := beq_iff_eq.mpr x
   have X := bne_eq_false_iff_eq.mpr x
   clear x
   obtain rfl := z5 H
   have l : 0 ≤ (a : Int) := z3
   have q : a < (u.length : Int) := z3
   obtain ⟨I, y, A⟩ := Kd.at_int M.out a l q
   cases y
   replace l := eq_true l
   replace q := eq_true q
   go_wp2
   go_ret
   exact ⟨zR, zD⟩
 rw [if_neg x] at H
 have U := beq_eq_false_iff_ne.mpr x
 have X := bne_iff_ne.mpr x
 have H' := zK H
 clear H
 have l : 0 ≤ (a : Int) := z3
 have q : a < (u.length : Int) := z3
 obtain ⟨I, y, A⟩ := Kd.at_int M.out a l q
 cases y
 replace l := eq_true l
 replace q := eq_true q
 go_wp2
 go_roundg k1
 case measure => have := O.out; omega
 case rel => exact ⟨(wrap64 (a + 1)), zR, H', ⟨by have := O.out; omega⟩, zD⟩
def slices_Contains_int_int.f (k : Nat) (l : List Int) (q : Int) : Option (Bool) := (slices_Index_int_int.f k l q).bind fun a => (some (decide (a ≥ 0)))
theorem slices_Contains_int_int.calls (k) (z) (A) (a : List Int) (q) (r : Bool) (w) (u : Kd.C (Kd.int .i64) w z a.length a) (x : a.length ≤ A) (h : slices_Contains_int_int.f k a q = some r) :
 Calls Try.prog 50 #[.slice z a.length A, .int .i64 q] w fun e w' => e = .returned (.bool r) ∧ Drawn0 w w' := by
 have B := zK u
 have D := zK x
 clear u x
 have H : ((slices_Index_int_int.f k a q).bind fun l => (some (decide (l ≥ 0)))) = some r := h
 clear h
 replace H := z6 H
 obtain ⟨l, y, H⟩ := H
 have E := zK y
 clear y
 obtain rfl := z5 H
 go_enter Try.func50, Try.ntmps50
 go_wp2_with (first | ((with_reducible refine gc 72 rfl ?_); refine zF 7 Try.func72 #[.slice z a.length A, .int .i64 q] rfl zL ?_; refine (slices_Index_int_int.calls k _ _ a q l _ (zC B.out) D.out E.out).mono ?_; rintro e w' ⟨rfl, ⟨nd, rfl⟩⟩; refine ⟨_, rfl, ?_⟩))
 go_ret
 exact ⟨zR, zD⟩
end Go.Proofs.Ytmcboiffbcnalaa.PFnExactPlanOk
