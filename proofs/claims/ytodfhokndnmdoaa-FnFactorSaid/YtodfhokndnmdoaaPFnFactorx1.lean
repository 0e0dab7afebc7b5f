-- Printed out of the translation by this session's own turned copy of a printer; Lean checks it.
import Derived.Test.YtodfhokndnmdoaaPFnFactorx0
namespace Go.Proofs.Ytodfhokndnmdoaa.PFnFactor
open Go.RowKit Go.Proofs.YtodfhokndnmdoaaW.PrintWords Go.Proofs.YtodfhokndnmdoaaW.PrintLast Go.Proofs.YtodfhokndnmdoaaW.PrintMore
attribute [local go_sem] max2_int min2_int max_two min_two max_three min_three max_four min_four
set_option linter.unusedVariables false
set_option linter.unusedSimpArgs false
set_option maxHeartbeats 8000000
set_option maxRecDepth 100000
def spec_l5In.f (a : Int) (l : Int) (q : Int) : Option (Bool) := if a ≥ l then (some (decide (a ≤ q))) else (some false)
theorem spec_l5In.calls (l) (q) (u) (r : Bool) (w) (h : spec_l5In.f l q u = some r) :
 Calls Try.prog 63 #[.int .i64 l, .int .i64 q, .int .i64 u] w fun e w' => e = .returned (.bool r) ∧ Drawn0 w w' := by
 have H : (if l ≥ q then (some (decide (l ≤ u))) else (some false)) = some r := h
 clear h
 by_cases a : l ≥ q
 · rw [if_pos a] at H
   have x := z1 a
   clear a
   obtain rfl := z5 H
   go_enter Try.func63, Try.ntmps63
   go_wp2
   go_ret
   exact ⟨zR, zD⟩
 rw [if_neg a] at H
 have x := z2 a
 clear a
 obtain rfl := z5 H
 go_enter Try.func63, Try.ntmps63
 go_wp2
 go_ret
 exact ⟨zR, zD⟩
mutual
def spec_OptOk.l0 : Nat → Int → List Int → List Int → List Int → Int → Int → Int → Option (Bool)
 | 0, _, _, _, _, _, _, _ => none
 | k + 1, z, a, l, q, u, x, y => if z < (a.length : Int) then (if 0 ≤ z then ((spec_l5In.f (rd a z) (-68719476736) 68719476736).bind fun A => (if A = true then (if z < (l.length : Int) then ((spec_l5In.f (rd l z) (-4294967296) 4294967296).bind fun B => (if B = true then (if z < (q.length : Int) then ((spec_l5In.f (rd q z) 0 17179869184).bind fun D => (if D = true then (spec_OptOk.l0 k (wrap64 (z + 1)) a l q u x y) else (some false))) else (none)) else (some false))) else (none)) else (some false))) else (none)) else (spec_OptOk.l1 k 1 a l q u x y)
def spec_OptOk.l1 : Nat → Int → List Int → List Int → List Int → Int → Int → Int → Option (Bool)
 | 0, _, _, _, _, _, _, _ => none
 | k + 1, z, l, q, u, x, a, y => if z ≤ 65536 then (if z = a then (some true) else (spec_OptOk.l1 k (wrap64 (z * 2)) l q u x a y)) else (some false)
end
def spec_OptOk.f (k : Nat) (a : List Int) (l : List Int) (q : List Int) (u : Int) (y : Int) (x : Int) : Option (Bool) := if (a.length : Int) > 4096 then (some false) else (if (l.length : Int) = (a.length : Int) then (if (q.length : Int) = (a.length : Int) then ((spec_l5In.f u 0 1000000).bind fun z => (if z = true then ((spec_l5In.f x 0 1000000).bind fun A => (if A = true then (spec_OptOk.l0 k 0 a l q u y x) else (some false))) else (some false))) else (some false)) else (some false))
theorem spec_OptOk.calls (k) (d0) (e0) (l : List Int) (f0) (g0) (q : List Int) (i0) (j0) (x : List Int) (J) (M) (L) (r : Bool) (w) (o1 : Kd.C (Kd.int .i64) w d0 l.length l) (s1 : l.length ≤ e0) (t1 : Kd.C (Kd.int .i64) w f0 q.length q) (x1 : q.length ≤ g0) (y1 : Kd.C (Kd.int .i64) w i0 x.length x) (A1 : x.length ≤ j0) (h : spec_OptOk.f k l q x J M L = some r) :
 Calls Try.prog 30 #[.agg #[.slice d0 l.length e0, .slice f0 q.length g0, .slice i0 x.length j0, .int .i64 J, .int .i64 M, .int .i64 L]] w fun e w' => e = .returned (.bool r) ∧ Below w.heap.size w w' := by
 have d5 := Try.underlying30
 have c0 := zK o1
 have U4 := zK s1
 clear o1 s1
 have J0 := zK t1
 have V4 := zK x1
 clear t1 x1
 have B1 := zK y1
 have X4 := zK A1
 clear y1 A1
 have HB := zK (Below.refl w.heap.size w)
 have H : (if (l.length : Int) > 4096 then (some false) else (if (q.length : Int) = (l.length : Int) then (if (x.length : Int) = (l.length : Int) then ((spec_l5In.f J 0 1000000).bind fun V0 => (if V0 = true then ((spec_l5In.f L 0 1000000).bind fun X0 => (if X0 = true then (spec_OptOk.l0 k 0 l q x J M L) else (some false))) else (some false))) else (some false)) else (some false))) = some r := h
 clear h
 by_cases c2 : (l.length : Int) > 4096
 rw [if_pos c2] at H
 have a1 := z1 c2
 have b1 : decide (4096 < l.length) = true := z1 (by omega)
 clear c2
 obtain rfl := z5 H
 rotate_left
 rw [if_neg c2] at H
 have a1 := z2 c2
 have b1 : decide (4096 < l.length) = false := z2 (by omega)
 clear c2
 rcases zN ((q.length : Int) = (l.length : Int)) with X | X
 rw [if_neg X] at H
 have d1 := beq_eq_false_iff_ne.mpr X
 have e1 := bne_iff_ne.mpr X
 have f1 : (q.length == l.length) = false := by first | simpa using X | (simp at X ⊢; omega)
 obtain rfl := z5 H
 rotate_left
 rw [if_pos X] at H
 have d1 := beq_iff_eq.mpr X
 have e1 := bne_eq_false_iff_eq.mpr X
 have f1 : (q.length == l.length) = true := by first | simpa using X | (simp at X ⊢; omega)
 clear X
 rcases zN ((x.length : Int) = (l.length : Int)) with c6 | c6
 rw [if_neg c6] at H
 have g1 := beq_eq_false_iff_ne.mpr c6
 have i1 := bne_iff_ne.mpr c6
 have j1 : (x.length == l.length) = false := by first | simpa using c6 | (simp at c6 ⊢; omega)
 obtain rfl := z5 H
 rotate_left
 rw [if_pos c6] at H
 have g1 := beq_iff_eq.mpr c6
 have i1 := bne_eq_false_iff_eq.mpr c6
 have j1 : (x.length == l.length) = true := by first | simpa using c6 | (simp at c6 ⊢; omega)
 clear c6
 replace H := z6 H
 obtain ⟨V0, X3, H⟩ := H
 have A7 := zK X3
 clear X3
 rcases zN (V0 = true) with c8 | c8
 replace c8 := Bool.eq_false_iff.mpr c8
 subst c8
 rw [if_neg (show ¬ (false = true) by decide)] at H
 obtain rfl := z5 H
 rotate_left
 subst c8
 rw [if_pos rfl] at H
 replace H := z6 H
 obtain ⟨X0, a4, H⟩ := H
 have A9 := zK a4
 clear a4
 rcases zN (X0 = true) with m0 | m0
 replace m0 := Bool.eq_false_iff.mpr m0
 subst m0
 rw [if_neg (show ¬ (false = true) by decide)] at H
 obtain rfl := z5 H
 rotate_left
 subst m0
 rw [if_pos rfl] at H
 have H' := zK H
 clear H
 all_goals go_enter Try.func30, Try.ntmps30
 all_goals go_wp2_with (first | ((with_reducible refine gd 1 rfl ?_); (try (refine gate_guard (by rfl) ?_; dsimp only)); refine zJ 1 #[.slice d0 l.length e0, .slice f0 q.length g0, .slice i0 x.length j0, .int .i64 J, .int .i64 M, .int .i64 L] 30 ?_; intro C1 hg m5 hbox hb; have N4 := z8 hb; have O4 := zK (hbox); have R4 := z9 hg; have S4 := z9 hg; revert N4 O4 R4 S4; clear HB; intro HB y a5 b5; clear hb hbox hg; obtain ⟨q0, s0, t0, x0, y0, A0, B0, C0, D0, E0, F0, G0⟩ := zc6 y) | (go_at_call 63; (with_reducible refine (spec_l5In.calls J 0 1000000 _ _ A7.out).mono ?_); rintro e w' ⟨rfl, ⟨nd, rfl⟩⟩) | (go_at_call 63; (with_reducible refine (spec_l5In.calls L 0 1000000 _ _ A9.out).mono ?_); rintro e w' ⟨rfl, ⟨nd, rfl⟩⟩))
 · go_loopg [3] k (fun kq v3 w' => ∃ (a : Int), v3 = .int .i64 a ∧ Aside0 (spec_OptOk.l0 kq a l q x J M L = some r) ∧ Aside0 (kq ≤ k) ∧ Aside0 (w'.heap[C1]? = some (.cells #[(.slice d0 l.length e0), (.slice f0 q.length g0), (.slice i0 x.length j0), .int .i64 J, .int .i64 M, .int .i64 L] 30 (0, 0))) ∧ Aside0 (Below w.heap.size w w'))
   case atStart => exact ⟨(0), zR, H', ⟨Nat.le_refl _⟩, ⟨zM y⟩, ⟨zB⟩⟩
   clear H'
   try clear c1
   try clear c2
   try clear a1
   try clear b1
   try clear p2
   try clear c3
   try clear X
   try clear d1
   try clear e1
   try clear f1
   try clear c6
   try clear g1
   try clear i1
   try clear j1
   try clear c8
   try clear m0
   try clear q0 s0 t0 x0 y0 A0 B0 C0 D0 E0 F0 G0
   try clear q3 s3 t3 x3 y3 A3 B3 C3 D3 E3 F3 G3
   obtain ⟨a, rfl, HA, D1, y, HB⟩ := hrel
   rcases gk with _ | k1
   · exact absurd HA.out (by simp [spec_OptOk.l0])
   have H := HA.out
   clear HA
   simp only [spec_OptOk.l0] at H
   by_cases n0 : a < (l.length : Int)
   rotate_left
   · rw [if_neg n0] at H
     have E1 := z2 n0
     clear n0
     have H' := zK H
     clear H
     obtain ⟨I1, J1, L1, M1, N1, O1, R1, S1, T1, U1, V1, X1⟩ := zc6 y
     go_wp2
     go_loopg [4] k1 (fun kq v4 w' => ∃ (b0 : Int), v4 = .int .i64 b0 ∧ Aside0 (spec_OptOk.l1 kq b0 l q x J M L = some r) ∧ Aside0 (kq ≤ k1) ∧ Aside0 (w'.heap[C1]? = some (.cells #[(.slice d0 l.length e0), (.slice f0 q.length g0), (.slice i0 x.length j0), .int .i64 J, .int .i64 M, .int .i64 L] 30 (0, 0))) ∧ Aside0 (Below w.heap.size w w'))
     case atStart => exact ⟨(1), zR, H', ⟨Nat.le_refl _⟩, ⟨zM y⟩, ⟨zB⟩⟩
     clear H'
     try clear c1
     try clear p1
     try clear q1
     try clear n5
     try clear c2
     try clear a1
     try clear b1
     try clear p2
     try clear c3
     try clear X
     try clear d1
     try clear e1
     try clear f1
     try clear c6
     try clear g1
     try clear i1
     try clear j1
     try clear p6
     try clear c8
     try clear m0
     try clear o5
     try clear p5
     try clear j5
     try clear q5
     try clear s5
     try clear l5
     try clear n0
     try clear E1
     try clear N0
     try clear N3
     try clear O0
     try clear R0
     try clear O3
     try clear S0
     try clear T0
     try clear R3
     try clear U0
     try clear q0 s0 t0 x0 y0 A0 B0 C0 D0 E0 F0 G0
     try clear a2 b2 d2 e2 f2 g2 i2 j2 l2 m2 n2 o2
     try clear q2 s2 t2 x2 y2 A2 B2 C2 D2 E2 F2 G2
     try clear I2 J2 L2 M2 N2 O2 R2 T2 U2 V2 X2 a3
     try clear b3 d3 e3 f3 g3 i3 j3 l3 m3 n3 o3 p3
     try clear I1 J1 L1 M1 N1 O1 R1 S1 T1 U1 V1 X1
     try clear q3 s3 t3 x3 y3 A3 B3 C3 D3 E3 F3 G3
     try clear u
     try clear z
     try clear I
     try clear A
     try clear D
     try clear O
     try clear p2
     try clear B
     try clear E
     try clear T
     obtain ⟨b0, rfl, HA, b4, y, HB⟩ := hrel
     rcases gk with _ | k2
     · exact absurd HA.out (by simp [spec_OptOk.l1])
     have H := HA.out
     clear HA
     simp only [spec_OptOk.l1] at H
     by_cases I0 : b0 ≤ 65536
     rotate_left
     · rw [if_neg I0] at H
       have S3 := z2 I0
       clear I0
       obtain rfl := z5 H
       go_wp2
       go_ret
       exact ⟨zE, zB⟩
     rw [if_pos I0] at H
     have S3 := z1 I0
     clear I0
     by_cases o0 : b0 = M
     · rw [if_pos o0] at H
       have T3 := beq_iff_eq.mpr o0
       have U3 := bne_eq_false_iff_eq.mpr o0
       clear o0
       obtain rfl := z5 H
       obtain ⟨g4, i4, j4, l4, m4, n4, o4, p4, q4, s4, t4, x4⟩ := zc6 y
       go_wp2
       go_ret
       exact ⟨zE, zB⟩
     rw [if_neg o0] at H
     have T3 := beq_eq_false_iff_ne.mpr o0
     have U3 := bne_iff_ne.mpr o0
     have H' := zK H
     clear H
     obtain ⟨y4, A4, B4, C4, D4, E4, F4, G4, I4, J4, L4, M4⟩ := zc6 y
     go_wp2
     go_roundg k2
     case measure => have := D1.out; have := b4.out; omega
     case rel => exact ⟨(wrap64 (b0 * 2)), zR, H', ⟨by have := D1.out; have := b4.out; omega⟩, ⟨zM y⟩, ⟨zB⟩⟩
   rw [if_pos n0] at H
   have E1 := z1 n0
   clear n0
   by_cases N0 : 0 ≤ a
   rotate_left
   · rw [if_neg N0] at H
     exact absurd H (by simp)
   rw [if_pos N0] at H
   have N3 := z1 N0
   clear N0
   replace H := z6 H
   obtain ⟨d4, I3, H⟩ := H
   have F1 := zK I3
   clear I3
   by_cases O0 : d4 = true
   rotate_left
   · replace O0 := Bool.eq_false_iff.mpr O0
     subst O0
     rw [if_neg (show ¬ (false = true) by decide)] at H
     obtain rfl := z5 H
     obtain ⟨b3, d3, e3, f3, g3, i3, j3, l3, m3, n3, o3, p3⟩ := zc6 y
     have A : 0 ≤ (a : Int) := z3
     have B : a < (l.length : Int) := z3
     obtain ⟨L0, U, u⟩ := Kd.at_int c0.out a A B
     cases U
     (try replace u := zX HB u)
     replace A := eq_true A
     replace B := eq_true B
     go_wp2_with (first | ((with_reducible refine gc 63 rfl ?_); refine zF 51 Try.func63 #[.int .i64 (rd l a), .int .i64 (-68719476736), .int .i64 68719476736] rfl zL ?_; (with_reducible refine (spec_l5In.calls (rd l a) (-68719476736) 68719476736 false _ F1.out).mono ?_); rintro e w' ⟨rfl, ⟨nd, rfl⟩⟩; refine ⟨_, rfl, ?_⟩))
     go_ret
     exact ⟨zE, zB⟩
   subst O0
   rw [if_pos rfl] at H
   by_cases R0 : a < (q.length : Int)
   rotate_left
   · rw [if_neg R0] at H
     exact absurd H (by simp)
   rw [if_pos R0] at H
   have O3 := z1 R0
   clear R0
   replace H := z6 H
   obtain ⟨e4, J3, H⟩ := H
   have L3 := zK J3
   clear J3
   by_cases S0 : e4 = true
   rotate_left
   · replace S0 := Bool.eq_false_iff.mpr S0
     subst S0
     rw [if_neg (show ¬ (false = true) by decide)] at H
     obtain rfl := z5 H
     obtain ⟨I2, J2, L2, M2, N2, O2, R2, T2, U2, V2, X2, a3⟩ := zc6 y
     have A : 0 ≤ (a : Int) := z3
     have B : a < (l.length : Int) := z3
     obtain ⟨L0, U, u⟩ := Kd.at_int c0.out a A B
     cases U
     (try replace u := zX HB u)
     replace A := eq_true A
     replace B := eq_true B
     go_wp2_with (first | ((with_reducible refine gc 63 rfl ?_); refine zF 51 Try.func63 #[.int .i64 (rd l a), .int .i64 (-68719476736), .int .i64 68719476736] rfl zL ?_; (with_reducible refine (spec_l5In.calls (rd l a) (-68719476736) 68719476736 true _ F1.out).mono ?_); rintro e w' ⟨rfl, ⟨nd, rfl⟩⟩; refine ⟨_, rfl, ?_⟩; have D : 0 ≤ (a : Int) := z3; have E : a < (q.length : Int) := z3; obtain ⟨G1, p0, z⟩ := Kd.at_int J0.out a D E; cases p0; (try replace z := zX HB z); replace D := eq_true D; replace E := eq_true E) | (go_at_call 63; (with_reducible refine (spec_l5In.calls (rd q a) (-4294967296) 4294967296 false _ L3.out).mono ?_); rintro e w' ⟨rfl, ⟨nd, rfl⟩⟩))
     go_ret
     exact ⟨zE, zB⟩
   subst S0
   rw [if_pos rfl] at H
   by_cases T0 : a < (x.length : Int)
   rotate_left
   · rw [if_neg T0] at H
     exact absurd H (by simp)
   rw [if_pos T0] at H
   have R3 := z1 T0
   clear T0
   replace H := z6 H
   obtain ⟨f4, M3, H⟩ := H
   have c4 := zK M3
   clear M3
   by_cases U0 : f4 = true
   rotate_left
   · replace U0 := Bool.eq_false_iff.mpr U0
     subst U0
     rw [if_neg (show ¬ (false = true) by decide)] at H
     obtain rfl := z5 H
     obtain ⟨q2, s2, t2, x2, y2, A2, B2, C2, D2, E2, F2, G2⟩ := zc6 y
     have A : 0 ≤ (a : Int) := z3
     have B : a < (l.length : Int) := z3
     obtain ⟨L0, U, u⟩ := Kd.at_int c0.out a A B
     cases U
     (try replace u := zX HB u)
     replace A := eq_true A
     replace B := eq_true B
     go_wp2_with (first | ((with_reducible refine gc 63 rfl ?_); refine zF 51 Try.func63 #[.int .i64 (rd l a), .int .i64 (-68719476736), .int .i64 68719476736] rfl zL ?_; (with_reducible refine (spec_l5In.calls (rd l a) (-68719476736) 68719476736 true _ F1.out).mono ?_); rintro e w' ⟨rfl, ⟨nd, rfl⟩⟩; refine ⟨_, rfl, ?_⟩; have D : 0 ≤ (a : Int) := z3; have E : a < (q.length : Int) := z3; obtain ⟨G1, p0, z⟩ := Kd.at_int J0.out a D E; cases p0; (try replace z := zX HB z); replace D := eq_true D; replace E := eq_true E) | (go_at_call 63; (with_reducible refine (spec_l5In.calls (rd q a) (-4294967296) 4294967296 true _ L3.out).mono ?_); rintro e w' ⟨rfl, ⟨nd, rfl⟩⟩; have O : 0 ≤ (a : Int) := z3; have T : a < (x.length : Int) := z3; obtain ⟨V3, n1, I⟩ := Kd.at_int B1.out a O T; cases n1; (try replace I := zX HB I); replace O := eq_true O; replace T := eq_true T) | (go_at_call 63; (with_reducible refine (spec_l5In.calls (rd x a) 0 17179869184 false _ c4.out).mono ?_); rintro e w' ⟨rfl, ⟨nd, rfl⟩⟩))
     go_ret
     exact ⟨zE, zB⟩
   subst U0
   rw [if_pos rfl] at H
   have H' := zK H
   clear H
   obtain ⟨a2, b2, d2, e2, f2, g2, i2, j2, l2, m2, n2, o2⟩ := zc6 y
   have A : 0 ≤ (a : Int) := z3
   have B : a < (l.length : Int) := z3
   obtain ⟨L0, U, u⟩ := Kd.at_int c0.out a A B
   cases U
   (try replace u := zX HB u)
   replace A := eq_true A
   replace B := eq_true B
   go_wp2_with (first | ((with_reducible refine gc 63 rfl ?_); refine zF 51 Try.func63 #[.int .i64 (rd l a), .int .i64 (-68719476736), .int .i64 68719476736] rfl zL ?_; (with_reducible refine (spec_l5In.calls (rd l a) (-68719476736) 68719476736 true _ F1.out).mono ?_); rintro e w' ⟨rfl, ⟨nd, rfl⟩⟩; refine ⟨_, rfl, ?_⟩; have D : 0 ≤ (a : Int) := z3; have E : a < (q.length : Int) := z3; obtain ⟨G1, p0, z⟩ := Kd.at_int J0.out a D E; cases p0; (try replace z := zX HB z); replace D := eq_true D; replace E := eq_true E) | (go_at_call 63; (with_reducible refine (spec_l5In.calls (rd q a) (-4294967296) 4294967296 true _ L3.out).mono ?_); rintro e w' ⟨rfl, ⟨nd, rfl⟩⟩; have O : 0 ≤ (a : Int) := z3; have T : a < (x.length : Int) := z3; obtain ⟨V3, n1, I⟩ := Kd.at_int B1.out a O T; cases n1; (try replace I := zX HB I); replace O := eq_true O; replace T := eq_true T) | (go_at_call 63; (with_reducible refine (spec_l5In.calls (rd x a) 0 17179869184 true _ c4.out).mono ?_); rintro e w' ⟨rfl, ⟨nd, rfl⟩⟩))
   go_roundg k1
   case measure => have := D1.out; omega
   case rel => exact ⟨(wrap64 (a + 1)), zR, H', ⟨by have := D1.out; omega⟩, ⟨zM y⟩, ⟨zB⟩⟩
 all_goals go_ret
 all_goals exact ⟨zE, zB⟩
def spec_SchedOk.f (a : Int) (q : Int) (u : Int) (l : Int) : Option (Bool) := (spec_l5In.f a 0 16777216).bind fun x => (if x = true then ((spec_l5In.f q 0 a).bind fun y => (if y = true then ((spec_l5In.f l 0 1000000).bind fun z => (if z = true then ((spec_l5In.f u 0 l).bind fun A => (some A)) else (some false))) else (some false))) else (some false))
theorem spec_SchedOk.calls (a) (q) (u) (l) (r : Bool) (w) (h : spec_SchedOk.f a q u l = some r) :
 Calls Try.prog 64 #[.agg #[.int .i64 a, .int .i64 q, .int .i64 u, .int .i64 l]] w fun e w' => e = .returned (.bool r) ∧ Below w.heap.size w w' := by
 have o0 := Try.underlying33
 have HB := zK (Below.refl w.heap.size w)
 have H : ((spec_l5In.f a 0 16777216).bind fun x => (if x = true then ((spec_l5In.f q 0 a).bind fun y => (if y = true then ((spec_l5In.f l 0 1000000).bind fun z => (if z = true then ((spec_l5In.f u 0 l).bind fun A => (some A)) else (some false))) else (some false))) else (some false))) = some r := h
 clear h
 replace H := z6 H
 obtain ⟨x, J, H⟩ := H
 have A2 := zK J
 clear J
 rcases zN (x = true) with B | B
 replace B := Bool.eq_false_iff.mpr B
 subst B
 rw [if_neg (show ¬ (false = true) by decide)] at H
 obtain rfl := z5 H
 rotate_left
 subst B
 rw [if_pos rfl] at H
 replace H := z6 H
 obtain ⟨y, L, H⟩ := H
 have A4 := zK L
 clear L
 rcases zN (y = true) with D | D
 replace D := Bool.eq_false_iff.mpr D
 subst D
 rw [if_neg (show ¬ (false = true) by decide)] at H
 obtain rfl := z5 H
 rotate_left
 subst D
 rw [if_pos rfl] at H
 replace H := z6 H
 obtain ⟨z, M, H⟩ := H
 have A6 := zK M
 clear M
 rcases zN (z = true) with E | E
 replace E := Bool.eq_false_iff.mpr E
 subst E
 rw [if_neg (show ¬ (false = true) by decide)] at H
 obtain rfl := z5 H
 rotate_left
 subst E
 rw [if_pos rfl] at H
 replace H := z6 H
 obtain ⟨A, O, H⟩ := H
 have A8 := zK O
 clear O
 obtain rfl := z5 H
 all_goals go_enter Try.func64, Try.ntmps64
 all_goals go_wp2_with (first | ((with_reducible refine gd 1 rfl ?_); refine zJ 1 #[.int .i64 a, .int .i64 q, .int .i64 u, .int .i64 l] 33 ?_; intro l0 hg w9 hbox hb; have f0 := z8 hb; have g0 := zK (hbox); have i0 := z9 hg; have j0 := z9 hg; revert f0 g0 i0 j0; clear HB; intro HB I m0 n0; clear hb hbox hg; obtain ⟨T, U, X, a0, b0, c0, d0, e0⟩ := zc4 I) | ((with_reducible refine gc 63 rfl ?_); refine zF 5 Try.func63 #[.int .i64 a, .int .i64 0, .int .i64 16777216] rfl zL ?_; (with_reducible refine (spec_l5In.calls a 0 16777216 _ _ A2.out).mono ?_); rintro e w' ⟨rfl, ⟨nd, rfl⟩⟩; refine ⟨_, rfl, ?_⟩) | (go_at_call 63; (with_reducible refine (spec_l5In.calls q 0 a _ _ A4.out).mono ?_); rintro e w' ⟨rfl, ⟨nd, rfl⟩⟩) | (go_at_call 63; (with_reducible refine (spec_l5In.calls l 0 1000000 _ _ A6.out).mono ?_); rintro e w' ⟨rfl, ⟨nd, rfl⟩⟩) | (go_at_call 63; (with_reducible refine (spec_l5In.calls u 0 l A _ A8.out).mono ?_); rintro e w' ⟨rfl, ⟨nd, rfl⟩⟩))
 all_goals go_ret
 all_goals exact ⟨zE, zB⟩
def spec_l15Part.f (l : Int) : Option (Bool) := (spec_l5In.f l 0 65536).bind fun a => (some a)
theorem spec_l15Part.calls (l) (r : Bool) (w) (h : spec_l15Part.f l = some r) :
 Calls Try.prog 65 #[.int .i64 l] w fun e w' => e = .returned (.bool r) ∧ Drawn0 w w' := by
 have H : ((spec_l5In.f l 0 65536).bind fun a => (some a)) = some r := h
 clear h
 replace H := z6 H
 obtain ⟨a, q, H⟩ := H
 have u := zK q
 clear q
 obtain rfl := z5 H
 go_enter Try.func65, Try.ntmps65
 go_wp2_with (first | ((with_reducible refine gc 63 rfl ?_); refine zF 4 Try.func63 #[.int .i64 l, .int .i64 0, .int .i64 65536] rfl zL ?_; (with_reducible refine (spec_l5In.calls l 0 65536 a _ u.out).mono ?_); rintro e w' ⟨rfl, ⟨nd, rfl⟩⟩; refine ⟨_, rfl, ?_⟩))
 go_ret
 exact ⟨zR, zD⟩
end Go.Proofs.Ytodfhokndnmdoaa.PFnFactor
