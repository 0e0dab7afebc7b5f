-- Printed out of the translation by this session's own turned copy of a printer; Lean checks it.
import Derived.Test.YtmcboiffbcnalaaPFnExactLivesx0
import Derived.Test.YtmcboiffbcnalaaPFnExactLivesx11
import Derived.Test.YtmcboiffbcnalaaPFnExactLivesx15
namespace Go.Proofs.Ytmcboiffbcnalaa.PFnExactLives
open Go.RowKit Go.Proofs.YtmcboiffbcnalaaW.PrintWords Go.Proofs.YtmcboiffbcnalaaW.PrintLast Go.Proofs.YtmcboiffbcnalaaW.PrintMore
attribute [local go_sem] max2_int min2_int max_two min_two max_three min_three max_four min_four
set_option linter.unusedVariables false
set_option linter.unusedSimpArgs false
set_option maxHeartbeats 8000000
set_option maxRecDepth 100000
mutual
def impl_NestOk.j0 : Nat → Bool → List Int → List Int → List (S71) → List (S79) → List Int → Option (Bool)
 | 0, _, _, _, _, _, _ => none
 | k + 1, A, l, q, u, y, z => if A = true then (some false) else (impl_NestOk.l0 k l (l.length : Int) 0 l q u y z)
def impl_NestOk.l0 : Nat → List Int → Int → Int → List Int → List Int → List (S71) → List (S79) → List Int → Option (Bool)
 | 0, _, _, _, _, _, _, _, _ => none
 | k + 1, B, E, q, u, y, z, A, l => if q < E then (if 0 ≤ q then (if q < (B.length : Int) then (if (rd B q) < 0 then (some false) else (if (rd B q) > 4096 then (some false) else (impl_NestOk.l0 k B E (wrap64 (q + 1)) u y z A l))) else (none)) else (none)) else (impl_NestOk.l1 k l (l.length : Int) 0 u y z A l)
def impl_NestOk.l1 : Nat → List Int → Int → Int → List Int → List Int → List (S71) → List (S79) → List Int → Option (Bool)
 | 0, _, _, _, _, _, _, _, _ => none
 | k + 1, B, I, A, q, u, y, l, z => if A < I then (if 0 ≤ A then (if A < (B.length : Int) then (if (rd B A) < 0 then (some false) else (if (rd B A) ≥ (q.length : Int) then (some false) else (impl_NestOk.l1 k B I (wrap64 (A + 1)) q u y l z))) else (none)) else (none)) else ((impl_Nest_given.f q u y l z).bind fun E => (if E.2 = true then (impl_NestOk.l2 k E.1 0 l (l.length : Int) 0 q u y l z) else (some false)))
def impl_NestOk.l2 : Nat → List Bool → Int → List (S79) → Int → Int → List Int → List Int → List (S71) → List (S79) → List Int → Option (Bool)
 | 0, _, _, _, _, _, _, _, _, _, _ => none
 | k + 1, J, L, q, I, l, u, y, z, A, B => if l < I then (if 0 ≤ l then (if l < (q.length : Int) then ((impl_Nest_kernelOk.f k u y z A B ((rd_T79 q l).f0) ((rd_T79 q l).f1) ((rd_T79 q l).f2.f0) ((rd_T79 q l).f2.f1) ((rd_T79 q l).f2.f2) ((rd_T79 q l).f3) ((rd_T79 q l).f4) J).bind fun E => (if E.2 = true then (impl_NestOk.l2 k J (wrap64 (L + E.1)) q I (wrap64 (l + 1)) u y z A B) else (some false))) else (none)) else (none)) else (some (decide (L ≤ 1000000)))
end
def impl_NestOk.f (k : Nat) (l : List Int) (q : List Int) (z : List (S71)) (u : List (S79)) (y : List Int) : Option (Bool) := if (l.length : Int) > 200 then (impl_NestOk.j0 k true l q z u y) else (if (q.length : Int) > 40 then (impl_NestOk.j0 k true l q z u y) else (if (y.length : Int) > 40 then (impl_NestOk.j0 k true l q z u y) else (impl_NestOk.j0 k (decide ((u.length : Int) > 400)) l q z u y)))
theorem impl_NestOk.calls (k) (i0) (m0) (z : List Int) (n0) (o0) (E : List Int) (p0) (q0) (I : List (S71)) (g1) (s0) (l : List (S79)) (t0) (x0) (A : List Int) (r : Bool) (w) (E4 : Kd.C (Kd.int .i64) w i0 z.length z) (F4 : z.length ≤ m0) (G4 : Kd.C (Kd.int .i64) w n0 E.length E) (I4 : E.length ≤ o0) (J4 : Kd.C k71 w p0 I.length I) (L4 : I.length ≤ q0) (M4 : Kd.C k79 w g1 l.length l) (N4 : l.length ≤ s0) (O4 : Kd.C (Kd.int .i64) w t0 A.length A) (R4 : A.length ≤ x0) (h : impl_NestOk.f k z E I l A = some r) :
 Calls Try.prog 24 #[.agg #[.slice i0 z.length m0, .slice n0 E.length o0, .slice p0 I.length q0, .slice g1 l.length s0, .slice t0 A.length x0]] w fun e w' => e = .returned (.bool r) ∧ Below w.heap.size w w' := by
 have I9 := Try.underlying34
 have J9 := Try.underlying79
 have i1 := zK E4
 have n3 := zK F4
 clear E4 F4
 have o3 := zK G4
 have s3 := zK I4
 clear G4 I4
 have t3 := zK J4
 have x3 := zK L4
 clear J4 L4
 have s1 := zK M4
 have y3 := zK N4
 clear M4 N4
 have j1 := zK O4
 have A3 := zK R4
 clear O4 R4
 have HB := zK (Below.refl w.heap.size w)
 have H : (if (z.length : Int) > 200 then (impl_NestOk.j0 k true z E I l A) else (if (E.length : Int) > 40 then (impl_NestOk.j0 k true z E I l A) else (if (A.length : Int) > 40 then (impl_NestOk.j0 k true z E I l A) else (impl_NestOk.j0 k (decide ((l.length : Int) > 400)) z E I l A)))) = some r := h
 clear h
 have n6 := zK H
 clear H
 go_enter Try.func24, Try.ntmps24
 go_upto_region 1 with (first | ((with_reducible refine gd 1 rfl ?_); (try (refine gate_guard (by rfl) ?_; dsimp only)); refine zJ 1 #[.slice i0 z.length m0, .slice n0 E.length o0, .slice p0 I.length q0, .slice g1 l.length s0, .slice t0 A.length x0] 34 ?_; intro t1 hg w3 hbox hb; have B0 := z8 hb; have C0 := zK (hbox); have D0 := z9 hg; have I0 := z9 hg; revert B0 C0 D0 I0; clear HB; intro HB u y9 A9; clear hb hbox hg))
 (try simp only [Act.put, zq1, zq2, zq3])
 go_cut [35] (fun v35 wc => ∃ (kq : Nat) (B3 : Bool), v35 = .bool B3 ∧ Aside0 (impl_NestOk.j0 kq B3 z E I l A = some r) ∧ Aside0 (kq ≤ k) ∧ Aside0 (wc.heap[t1]? = some (.cells #[(.slice i0 z.length m0), (.slice n0 E.length o0), (.slice p0 I.length q0), (.slice g1 l.length s0), (.slice t0 A.length x0)] 34 (0, 0))) ∧ Aside0 (Below w.heap.size w wc))
 case first =>
  have H := n6.out
  clear n6
  by_cases c4 : (z.length : Int) > 200
  · rw [if_pos c4] at H
    have m1 := z1 c4
    have C3 : decide (200 < z.length) = true := z1 (by omega)
    clear c4
    (first | rw [m1] | (simp only [i64_w, i32_w]; rw [m1]) | skip)
    have H' := zK H
    clear H
    obtain ⟨M1, N1, O1, R1, S1, T1, U1, V1, X1, a2⟩ := zc5 u
    go_wp2
    go_meet
    case rel => exact ⟨_, (true), zR, H', ⟨by first | omega | exact Nat.le_refl _⟩, ⟨zM u⟩, ⟨zB⟩⟩
  rw [if_neg c4] at H
  have m1 := z2 c4
  have C3 : decide (200 < z.length) = false := z2 (by omega)
  clear c4
  (first | rw [m1] | (simp only [i64_w, i32_w]; rw [m1]) | skip)
  by_cases c6 : (E.length : Int) > 40
  · rw [if_pos c6] at H
    have D3 := z1 c6
    have E3 : decide (40 < E.length) = true := z1 (by omega)
    clear c6
    have H' := zK H
    clear H
    obtain ⟨b2, d2, e2, g2, i2, j2, m2, n2, o2, q2⟩ := zc5 u
    go_wp2
    go_meet
    case rel => exact ⟨_, (true), zR, H', ⟨by first | omega | exact Nat.le_refl _⟩, ⟨zM u⟩, ⟨zB⟩⟩
  rw [if_neg c6] at H
  have D3 := z2 c6
  have E3 : decide (40 < E.length) = false := z2 (by omega)
  clear c6
  by_cases c8 : (A.length : Int) > 40
  · rw [if_pos c8] at H
    have F3 := z1 c8
    have G3 : decide (40 < A.length) = true := z1 (by omega)
    clear c8
    have H' := zK H
    clear H
    obtain ⟨s2, t2, x2, y2, A2, B2, C2, D2, E2, F2⟩ := zc5 u
    go_wp2
    go_meet
    case rel => exact ⟨_, (true), zR, H', ⟨by first | omega | exact Nat.le_refl _⟩, ⟨zM u⟩, ⟨zB⟩⟩
  rw [if_neg c8] at H
  have F3 := z2 c8
  have G3 : decide (40 < A.length) = false := z2 (by omega)
  clear c8
  have H' := zK H
  clear H
  obtain ⟨x1, y1, A1, B1, C1, D1, E1, F1, G1, I1⟩ := zc5 u
  go_wp2
  go_meet
  case rel => exact ⟨_, (decide ((l.length : Int) > 400)), zR, H', ⟨by first | omega | exact Nat.le_refl _⟩, ⟨zM u⟩, ⟨zB⟩⟩
 case rest =>
  clear n6
  try clear c2
  try clear p2
  try clear c4
  try clear m1
  try clear C3
  try clear c6
  try clear D3
  try clear E3
  try clear c8
  try clear F3
  try clear G3
  try clear x1 y1 A1 B1 C1 D1 E1 F1 G1 I1
  try clear M1 N1 O1 R1 S1 T1 U1 V1 X1 a2
  try clear b2 d2 e2 g2 i2 j2 m2 n2 o2 q2
  try clear s2 t2 x2 y2 A2 B2 C2 D2 E2 F2
  obtain ⟨kq, B3, rfl, HA, V3, u, HB⟩ := hcut
  cases kq with
  | zero => exact absurd HA.out (by simp [impl_NestOk.j0])
  | succ J6 =>
   have H := HA.out
   clear HA
   simp only [impl_NestOk.j0] at H
   by_cases I3 : B3 = true
   · subst I3
     rw [if_pos rfl] at H
     obtain rfl := z5 H
     go_wp2
     go_ret
     exact ⟨zE, zB⟩
   replace I3 := Bool.eq_false_iff.mpr I3
   subst I3
   rw [if_neg (show ¬ (false = true) by decide)] at H
   have H' := zK H
   clear H
   obtain ⟨I2, J2, L2, M2, N2, O2, R2, T2, U2, V2⟩ := zc5 u
   go_wp2
   go_loopg [39] J6 (fun kq v39 w' => ∃ (L : Int), v39 = .int .i64 L ∧ Aside0 (impl_NestOk.l0 kq z (z.length : Int) L z E I l A = some r) ∧ Aside0 (kq ≤ J6) ∧ Aside0 (w'.heap[t1]? = some (.cells #[(.slice i0 z.length m0), (.slice n0 E.length o0), (.slice p0 I.length q0), (.slice g1 l.length s0), (.slice t0 A.length x0)] 34 (0, 0))) ∧ Aside0 (Below w.heap.size w w'))
   case atStart => exact ⟨(0), zR, H', ⟨Nat.le_refl _⟩, ⟨zM u⟩, ⟨zB⟩⟩
   clear H'
   try clear c1
   try clear c2
   try clear p2
   try clear c4
   try clear m1
   try clear C3
   try clear c6
   try clear D3
   try clear E3
   try clear c8
   try clear F3
   try clear G3
   try clear I3
   try clear x1 y1 A1 B1 C1 D1 E1 F1 G1 I1
   try clear I2 J2 L2 M2 N2 O2 R2 T2 U2 V2
   try clear M1 N1 O1 R1 S1 T1 U1 V1 X1 a2
   try clear b2 d2 e2 g2 i2 j2 m2 n2 o2 q2
   try clear s2 t2 x2 y2 A2 B2 C2 D2 E2 F2
   try clear p2
   obtain ⟨L, rfl, HA, X3, u, HB⟩ := hrel
   rcases gk with _ | k2
   · exact absurd HA.out (by simp [impl_NestOk.l0])
   have H := HA.out
   clear HA
   simp only [impl_NestOk.l0] at H
   by_cases j3 : L < (z.length : Int)
   · rw [if_pos j3] at H
     have s4 := z1 j3
     clear j3
     by_cases a4 : 0 ≤ L
     rotate_left
     · rw [if_neg a4] at H
       exact absurd H (by simp)
     rw [if_pos a4] at H
     have S4 := z1 a4
     clear a4
     by_cases b4 : L < (z.length : Int)
     rotate_left
     · rw [if_neg b4] at H
       exact absurd H (by simp)
     rw [if_pos b4] at H
     have T4 := z1 b4
     clear b4
     by_cases l3 : (rd z L) < 0
     · rw [if_pos l3] at H
       have t4 := z1 l3
       clear l3
       obtain rfl := z5 H
       have y0 : 0 ≤ (L : Int) := z3
       have A0 : L < (z.length : Int) := z3
       obtain ⟨U4, J3, O⟩ := Kd.at_int i1.out L y0 A0
       cases J3
       (try replace O := zX HB O)
       replace y0 := eq_true y0
       replace A0 := eq_true A0
       go_wp2
       go_ret
       exact ⟨zE, zB⟩
     rw [if_neg l3] at H
     have t4 := z2 l3
     clear l3
     by_cases m3 : (rd z L) > 4096
     · rw [if_pos m3] at H
       have x4 := z1 m3
       clear m3
       obtain rfl := z5 H
       have y0 : 0 ≤ (L : Int) := z3
       have A0 : L < (z.length : Int) := z3
       obtain ⟨U4, J3, O⟩ := Kd.at_int i1.out L y0 A0
       cases J3
       (try replace O := zX HB O)
       replace y0 := eq_true y0
       replace A0 := eq_true A0
       go_wp2
       go_ret
       exact ⟨zE, zB⟩
     rw [if_neg m3] at H
     have x4 := z2 m3
     clear m3
     have H' := zK H
     clear H
     have y0 : 0 ≤ (L : Int) := z3
     have A0 : L < (z.length : Int) := z3
     obtain ⟨U4, J3, O⟩ := Kd.at_int i1.out L y0 A0
     cases J3
     (try replace O := zX HB O)
     replace y0 := eq_true y0
     replace A0 := eq_true A0
     go_wp2
     go_roundg k2
     case measure => have := V3.out; have := X3.out; omega
     case rel => exact ⟨(wrap64 (L + 1)), zR, H', ⟨by have := V3.out; have := X3.out; omega⟩, ⟨zM u⟩, ⟨zB⟩⟩
   rw [if_neg j3] at H
   have s4 := z2 j3
   clear j3
   have H' := zK H
   clear H
   obtain ⟨d4, e4, g4, i4, j4, l4, m4, n4, o4, p4⟩ := zc5 u
   go_wp2
   go_loopg [53] k2 (fun kq v53 w' => ∃ (M : Int), v53 = .int .i64 M ∧ Aside0 (impl_NestOk.l1 kq A (A.length : Int) M z E I l A = some r) ∧ Aside0 (kq ≤ k2) ∧ Aside0 (w'.heap[t1]? = some (.cells #[(.slice i0 z.length m0), (.slice n0 E.length o0), (.slice p0 I.length q0), (.slice g1 l.length s0), (.slice t0 A.length x0)] 34 (0, 0))) ∧ Aside0 (Below w.heap.size w w'))
   case atStart => exact ⟨(0), zR, H', ⟨Nat.le_refl _⟩, ⟨zM u⟩, ⟨zB⟩⟩
   clear H'
   try clear c1
   try clear c2
   try clear p2
   try clear p3
   try clear q3
   try clear q9
   try clear c4
   try clear m1
   try clear C3
   try clear c6
   try clear D3
   try clear E3
   try clear p6
   try clear c8
   try clear F3
   try clear G3
   try clear I3
   try clear j3
   try clear s4
   try clear a4
   try clear S4
   try clear b4
   try clear T4
   try clear l3
   try clear t4
   try clear m3
   try clear x4
   try clear x1 y1 A1 B1 C1 D1 E1 F1 G1 I1
   try clear I2 J2 L2 M2 N2 O2 R2 T2 U2 V2
   try clear d4 e4 g4 i4 j4 l4 m4 n4 o4 p4
   try clear M1 N1 O1 R1 S1 T1 U1 V1 X1 a2
   try clear b2 d2 e2 g2 i2 j2 m2 n2 o2 q2
   try clear s2 t2 x2 y2 A2 B2 C2 D2 E2 F2
   try clear O
   try clear p2
   try clear y0
   try clear A0
   obtain ⟨M, rfl, HA, V4, u, HB⟩ := hrel
   rcases gk with _ | k3
   · exact absurd HA.out (by simp [impl_NestOk.l1])
   have H := HA.out
   clear HA
   simp only [impl_NestOk.l1] at H
   by_cases L3 : M < (A.length : Int)
   · rw [if_pos L3] at H
     have X4 := z1 L3
     clear L3
     by_cases A4 : 0 ≤ M
     rotate_left
     · rw [if_neg A4] at H
       exact absurd H (by simp)
     rw [if_pos A4] at H
     have D6 := z1 A4
     clear A4
     by_cases B4 : M < (A.length : Int)
     rotate_left
     · rw [if_neg B4] at H
       exact absurd H (by simp)
     rw [if_pos B4] at H
     have E6 := z1 B4
     clear B4
     by_cases M3 : (rd A M) < 0
     · rw [if_pos M3] at H
       have a5 := z1 M3
       clear M3
       obtain rfl := z5 H
       have E0 : 0 ≤ (M : Int) := z3
       have F0 : M < (A.length : Int) := z3
       obtain ⟨b5, N3, T⟩ := Kd.at_int j1.out M E0 F0
       cases N3
       (try replace T := zX HB T)
       replace E0 := eq_true E0
       replace F0 := eq_true F0
       go_wp2
       go_ret
       exact ⟨zE, zB⟩
     rw [if_neg M3] at H
     have a5 := z2 M3
     clear M3
     by_cases O3 : (rd A M) ≥ (z.length : Int)
     · rw [if_pos O3] at H
       have c5 := z1 O3
       clear O3
       obtain rfl := z5 H
       have E0 : 0 ≤ (M : Int) := z3
       have F0 : M < (A.length : Int) := z3
       obtain ⟨b5, N3, T⟩ := Kd.at_int j1.out M E0 F0
       cases N3
       (try replace T := zX HB T)
       replace E0 := eq_true E0
       replace F0 := eq_true F0
       obtain ⟨j5, l5, m5, n5, o5, p5, q5, s5, t5, x5⟩ := zc5 u
       go_wp2
       go_ret
       exact ⟨zE, zB⟩
     rw [if_neg O3] at H
     have c5 := z2 O3
     clear O3
     have H' := zK H
     clear H
     have E0 : 0 ≤ (M : Int) := z3
     have F0 : M < (A.length : Int) := z3
     obtain ⟨b5, N3, T⟩ := Kd.at_int j1.out M E0 F0
     cases N3
     (try replace T := zX HB T)
     replace E0 := eq_true E0
     replace F0 := eq_true F0
     obtain ⟨y5, A5, B5, C5, D5, E5, F5, G5, I5, J5⟩ := zc5 u
     go_wp2
     go_roundg k3
     case measure => have := V3.out; have := X3.out; have := V4.out; omega
     case rel => exact ⟨(wrap64 (M + 1)), zR, H', ⟨by have := V3.out; have := X3.out; have := V4.out; omega⟩, ⟨zM u⟩, ⟨zB⟩⟩
   rw [if_neg L3] at H
   have X4 := z2 L3
   clear L3
   replace H := z6 H
   obtain ⟨⟨G0, o6⟩, q6, H⟩ := H
   replace H : (if o6 = true then (impl_NestOk.l2 k3 G0 0 l (l.length : Int) 0 z E I l A) else (some false)) = some r := H
   have L6 := zK q6
   clear q6
   by_cases C4 : o6 = true
   rotate_left
   · replace C4 := Bool.eq_false_iff.mpr C4
     subst C4
     rw [if_neg (show ¬ (false = true) by decide)] at H
     obtain rfl := z5 H
     obtain ⟨a7, b7, c7, d7, e7, f7, g7, i7, j7, l7⟩ := zc5 u
     go_wp2_with (first | ((with_reducible refine gc 47 rfl ?_); refine zF 69 Try.func47 #[.agg #[.slice i0 z.length m0, .slice n0 E.length o0, .slice p0 I.length q0, .slice g1 l.length s0, .slice t0 A.length x0]] rfl zL ?_; refine (impl_Nest_given.calls _ _ z _ _ E _ _ I _ _ l _ _ A G0 false _ (zS i1) n3.out (zS o3) s3.out (zS t3) x3.out (zS s1) y3.out (zS j1) A3.out L6.out).mono ?_; rintro e L9 ⟨v359, rfl, s6, hb⟩; refine ⟨_, rfl, ?_⟩; have B0 := zK (Kd.R_lower s6 (zz zB)); have C0 := z7 u hb; have D0 := z8 hb; revert B0 C0 D0; clear u HB; intro d5 u HB))
     go_ret
     exact ⟨zE, zB⟩
   subst C4
   rw [if_pos rfl] at H
   have H' := zK H
   clear H
   obtain ⟨L5, M5, N5, O5, R5, S5, T5, U5, V5, X5⟩ := zc5 u
   go_wp2_with (first | ((with_reducible refine gc 47 rfl ?_); refine zF 69 Try.func47 #[.agg #[.slice i0 z.length m0, .slice n0 E.length o0, .slice p0 I.length q0, .slice g1 l.length s0, .slice t0 A.length x0]] rfl zL ?_; refine (impl_Nest_given.calls _ _ z _ _ E _ _ I _ _ l _ _ A G0 true _ (zS i1) n3.out (zS o3) s3.out (zS t3) x3.out (zS s1) y3.out (zS j1) A3.out L6.out).mono ?_; rintro e M9 ⟨v359, rfl, s6, hb⟩; refine ⟨_, rfl, ?_⟩; have B0 := zK (Kd.R_lower s6 (zz zB)); have C0 := z7 u hb; have D0 := z8 hb; revert B0 C0 D0; clear u HB; intro d5 u HB; obtain ⟨a6, b6, d6, e6, f6, g6, i6, j6, l6, m6⟩ := zc5 u))
   go_loopg [9, 77] k3 (fun kq v9 v77 w' => ∃ (R3 : Int) (q : Int), v9 = .int .i64 R3 ∧ v77 = .int .i64 q ∧ Aside0 (impl_NestOk.l2 kq G0 R3 l (l.length : Int) q z E I l A = some r) ∧ Aside0 (kq ≤ k3) ∧ Aside0 (Kd.R Kd.bool 4 w' w.heap.size (fun _ => True) v359 G0) ∧ Aside0 (w'.heap[t1]? = some (.cells #[(.slice i0 z.length m0), (.slice n0 E.length o0), (.slice p0 I.length q0), (.slice g1 l.length s0), (.slice t0 A.length x0)] 34 (0, 0))) ∧ Aside0 (Below w.heap.size w w'))
   case atStart => exact ⟨(0), (0), zR, zR, H', ⟨Nat.le_refl _⟩, ⟨zkR d5⟩, ⟨zM u⟩, ⟨zB⟩⟩
   clear H'
   try clear c1
   try clear c2
   try clear p2
   try clear p3
   try clear q3
   try clear q9
   try clear c4
   try clear m1
   try clear C3
   try clear c6
   try clear D3
   try clear E3
   try clear p6
   try clear c8
   try clear F3
   try clear G3
   try clear I3
   try clear j3
   try clear s4
   try clear a4
   try clear S4
   try clear b4
   try clear T4
   try clear l3
   try clear t4
   try clear m3
   try clear x4
   try clear L3
   try clear X4
   try clear A4
   try clear D6
   try clear B4
   try clear E6
   try clear M3
   try clear a5
   try clear O3
   try clear c5
   try clear N9
   try clear C4
   try clear x1 y1 A1 B1 C1 D1 E1 F1 G1 I1
   try clear I2 J2 L2 M2 N2 O2 R2 T2 U2 V2
   try clear d4 e4 g4 i4 j4 l4 m4 n4 o4 p4
   try clear j5 l5 m5 n5 o5 p5 q5 s5 t5 x5
   try clear y5 A5 B5 C5 D5 E5 F5 G5 I5 J5
   try clear L5 M5 N5 O5 R5 S5 T5 U5 V5 X5
   try clear a6 b6 d6 e6 f6 g6 i6 j6 l6 m6
   try clear M1 N1 O1 R1 S1 T1 U1 V1 X1 a2
   try clear b2 d2 e2 g2 i2 j2 m2 n2 o2 q2
   try clear s2 t2 x2 y2 A2 B2 C2 D2 E2 F2
   try clear O
   try clear T
   try clear p2
   try clear p3
   try clear y0
   try clear E0
   try clear p6
   try clear q3
   try clear A0
   try clear F0
   obtain ⟨R3, q, rfl, rfl, HA, M6, J, u, HB⟩ := hrel
   rcases gk with _ | k4
   · exact absurd HA.out (by simp [impl_NestOk.l2])
   have H := HA.out
   clear HA
   simp only [impl_NestOk.l2] at H
   by_cases q4 : q < (l.length : Int)
   rotate_left
   · rw [if_neg q4] at H
     have F6 := z2 q4
     clear q4
     obtain rfl := z5 H
     go_wp2
     go_ret
     exact ⟨zE, zB⟩
   rw [if_pos q4] at H
   have F6 := z1 q4
   clear q4
   by_cases e5 : 0 ≤ q
   rotate_left
   · rw [if_neg e5] at H
     exact absurd H (by simp)
   rw [if_pos e5] at H
   have B9 := z1 e5
   clear e5
   by_cases f5 : q < (l.length : Int)
   rotate_left
   · rw [if_neg f5] at H
     exact absurd H (by simp)
   rw [if_pos f5] at H
   have C9 := z1 f5
   clear f5
   replace H := z6 H
   obtain ⟨⟨y4, t6⟩, x6, H⟩ := H
   replace H : (if t6 = true then (impl_NestOk.l2 k4 G0 (wrap64 (R3 + y4)) l (l.length : Int) (wrap64 (q + 1)) z E I l A) else (some false)) = some r := H
   have N6 := zK x6
   clear x6
   by_cases g5 : t6 = true
   rotate_left
   · replace g5 := Bool.eq_false_iff.mpr g5
     subst g5
     rw [if_neg (show ¬ (false = true) by decide)] at H
     obtain rfl := z5 H
     have J1 : 0 ≤ (q : Int) := z3
     have L1 : q < (l.length : Int) := z3
     obtain ⟨G2, U, X, a0, b0, c0, d0, e0, g0, D4, J0, L0, M0, N0, O0, R0, S0, T0, U0, V0, X0, a1, b1, d1, e1⟩ := at_T79 s1.out q J1 L1
     cases D4
     (try replace J0 := zX HB J0)
     (try replace L0 := zX HB L0)
     (try replace M0 := zX HB M0)
     (try replace N0 := zX HB N0)
     (try replace O0 := zX HB O0)
     (try replace R0 := zX HB R0)
     (try replace S0 := zX HB S0)
     have X2 := zK U0
     have a3 := zK T0
     clear U0 T0
     have b3 := zK X0
     have c3 := zK V0
     clear X0 V0
     have d3 := zK b1
     have e3 := zK a1
     clear b1 a1
     have g3 := zK e1
     have i3 := zK d1
     clear e1 d1
     replace J1 := eq_true J1
     replace L1 := eq_true L1
     go_wp2_with (first | ((with_reducible refine gd 11 rfl ?_); (try (refine gate_guard (by rfl) ?_; dsimp only)); refine zJ 11 #[.slice none 0 0, .slice none 0 0, .int .i64 0, .int .i64 0, .slice none 0 0, .bool false, .slice none 0 0] 79 ?_; intro B hg t9 hbox hb; have B0 := zK (Kd.R_below (zkR J) hb); have C0 := z7 u hb; have D0 := z8 hb; have I0 := zK (hbox); have y6 := z9 hg; have A6 := z9 hg; have B6 := zHH hg u; have C6 := zGG hg u; revert B0 C0 D0 I0 y6 A6 B6 C6; clear J u HB; intro J u HB y G6 I6 n1 o1; clear hb hbox hg; have D9 := o1.out; have E9 := n1.out; obtain ⟨m7, n7, o7, p7, q7, s7, t7, x7, y7, A7, B7, C7, D7, E7⟩ := zc7 y) | ((with_reducible refine gate_store (t := 79) (p := 11) rfl ?_); refine store_event (t := 79) (p := 11) (v := ?vo_w47) (w1 := (((((((t9.setCell ⟨B, 0, none⟩ (.slice U ((rd_T79 l q).f0).length X)).setCell ⟨B, 1, none⟩ (.slice a0 ((rd_T79 l q).f1).length b0)).setCell ⟨B, 2, none⟩ (.int .i64 ((rd_T79 l q).f2.f0))).setCell ⟨B, 3, none⟩ (.int .i64 ((rd_T79 l q).f2.f1))).setCell ⟨B, 4, none⟩ (.slice c0 ((rd_T79 l q).f2.f2).length d0)).setCell ⟨B, 5, none⟩ (.bool ((rd_T79 l q).f3))).setCell ⟨B, 6, none⟩ (.slice e0 ((rd_T79 l q).f4).length g0))) ?hg ?ho ?hn ?hr ?_; (case ho => rfl); (case hg => rfl); (case hn => rfl); (case hr => first | (go_simp; done) | (go_simp; rfl)); intro p1 hw; have B0 : Aside0 (Kd.R Kd.bool 4 p1 w.heap.size (fun _ => True) v359 G0) := ⟨(by rw [hw]; exact (Kd.R_mono (zlR (Kd.R_types J.out y.out (by decide))) (fun _ hk => trivial)))⟩; have C0 : Aside0 (p1.heap[t1]? = some (.cells #[.slice i0 z.length m0, .slice n0 E.length o0, .slice p0 I.length q0, .slice (some G2) l.length s0, .slice t0 A.length x0] 34 (0, 0))) := ⟨(by rw [hw]; exact (zV u))⟩; have D0 : Aside0 (p1.heap[B]? = some (.cells #[.slice U ((rd_T79 l q).f0).length X, .slice a0 ((rd_T79 l q).f1).length b0, .int .i64 ((rd_T79 l q).f2.f0), .int .i64 ((rd_T79 l q).f2.f1), .slice c0 ((rd_T79 l q).f2.f2).length d0, .bool ((rd_T79 l q).f3), .slice e0 ((rd_T79 l q).f4).length g0] 79 (0, 0))) := ⟨(by rw [hw]; exact (zW y))⟩; have I0 : Aside0 (Below w.heap.size w p1) := ⟨(by rw [hw]; exact zB)⟩; revert B0 C0 D0 I0; clear hw J u y HB; intro J u y HB; obtain ⟨F7, G7, I7, J7, L7, M7, N7, O7, R7, S7⟩ := zc5 u; have T7 : p1.cell? ⟨B, 0, none⟩ = some (.slice U ((rd_T79 l q).f0).length X) := zy y 0; have U7 : p1.cell? ⟨B, 1, none⟩ = some (.slice a0 ((rd_T79 l q).f1).length b0) := zy y 1; have V7 : p1.cell? ⟨B, 2, none⟩ = some (.int .i64 ((rd_T79 l q).f2.f0)) := zy y 2; have X7 : p1.cell? ⟨B, 3, none⟩ = some (.int .i64 ((rd_T79 l q).f2.f1)) := zy y 3; have a8 : p1.cell? ⟨B, 4, none⟩ = some (.slice c0 ((rd_T79 l q).f2.f2).length d0) := zy y 4; have b8 : p1.cell? ⟨B, 5, none⟩ = some (.bool ((rd_T79 l q).f3)) := zy y 5; have d8 : p1.cell? ⟨B, 6, none⟩ = some (.slice e0 ((rd_T79 l q).f4).length g0) := zy y 6; have e8 := zf y.out 0; have f8 := zf y.out 1; have g8 := zf y.out 2; have i8 := zf y.out 3; have j8 := zf y.out 4; have l8 := zf y.out 5; have m8 := zf y.out 6; obtain ⟨R6, S6, T6⟩ := Kd.R_slice J.out; subst T6) | ((with_reducible refine gc 48 rfl ?_); refine zF 85 Try.func48 #[.agg #[.slice i0 z.length m0, .slice n0 E.length o0, .slice p0 I.length q0, .slice (some G2) l.length s0, .slice t0 A.length x0], .agg #[.slice U ((rd_T79 l q).f0).length X, .slice a0 ((rd_T79 l q).f1).length b0, .int .i64 ((rd_T79 l q).f2.f0), .int .i64 ((rd_T79 l q).f2.f1), .slice c0 ((rd_T79 l q).f2.f2).length d0, .bool ((rd_T79 l q).f3), .slice e0 ((rd_T79 l q).f4).length g0], .slice R6 G0.length S6] rfl zL ?_; refine (impl_Nest_kernelOk.calls k4 _ _ z _ _ E _ _ I _ _ l _ _ A _ _ ((rd_T79 l q).f0) (fun k_ => k_ < w.heap.size) _ _ ((rd_T79 l q).f1) ((rd_T79 l q).f2.f0) ((rd_T79 l q).f2.f1) (fun k_ => k_ < w.heap.size) _ _ ((rd_T79 l q).f2.f2) ((rd_T79 l q).f3) _ _ ((rd_T79 l q).f4) _ _ G0 y4 false _ (zS i1) n3.out (zS o3) s3.out (zS t3) x3.out (zS s1) y3.out (zS j1) A3.out (zS X2) a3.out (Kd.V_mk c3.out (Kd.F_below (Kd.C_F k76_heap b3.out) zB)) (Kd.V_mk e3.out (Kd.F_below (Kd.C_F (Kd.heap_int .i64) d3.out) zB)) (zS g3) i3.out (zC (Kd.R_reads' J.out).2.2) ((Kd.R_reads' J.out).2.1) N6.out).mono ?_; rintro e O9 ⟨rfl, hb⟩; refine ⟨_, rfl, ?_⟩; have B0 := zK (Kd.R_below (zkR J) hb); have C0 := z7 u hb; have D0 := z7 y hb; have I0 := z8 hb; revert B0 C0 D0 I0; clear J u y HB; intro J u y HB))
     go_ret
     exact ⟨zE, zB⟩
   subst g5
   rw [if_pos rfl] at H
   have H' := zK H
   clear H
   have J1 : 0 ≤ (q : Int) := z3
   have L1 : q < (l.length : Int) := z3
   obtain ⟨G2, U, X, a0, b0, c0, d0, e0, g0, D4, J0, L0, M0, N0, O0, R0, S0, T0, U0, V0, X0, a1, b1, d1, e1⟩ := at_T79 s1.out q J1 L1
   cases D4
   (try replace J0 := zX HB J0)
   (try replace L0 := zX HB L0)
   (try replace M0 := zX HB M0)
   (try replace N0 := zX HB N0)
   (try replace O0 := zX HB O0)
   (try replace R0 := zX HB R0)
   (try replace S0 := zX HB S0)
   have X2 := zK U0
   have a3 := zK T0
   clear U0 T0
   have b3 := zK X0
   have c3 := zK V0
   clear X0 V0
   have d3 := zK b1
   have e3 := zK a1
   clear b1 a1
   have g3 := zK e1
   have i3 := zK d1
   clear e1 d1
   replace J1 := eq_true J1
   replace L1 := eq_true L1
   go_wp2_with (first | ((with_reducible refine gd 11 rfl ?_); (try (refine gate_guard (by rfl) ?_; dsimp only)); refine zJ 11 #[.slice none 0 0, .slice none 0 0, .int .i64 0, .int .i64 0, .slice none 0 0, .bool false, .slice none 0 0] 79 ?_; intro B hg x9 hbox hb; have B0 := zK (Kd.R_below (zkR J) hb); have C0 := z7 u hb; have D0 := z8 hb; have I0 := zK (hbox); have y6 := z9 hg; have A6 := z9 hg; have B6 := zHH hg u; have C6 := zGG hg u; revert B0 C0 D0 I0 y6 A6 B6 C6; clear J u HB; intro J u HB y G6 I6 n1 o1; clear hb hbox hg; have F9 := o1.out; have G9 := n1.out; obtain ⟨n8, o8, p8, q8, s8, t8, x8, y8, A8, B8, C8, D8, E8, F8⟩ := zc7 y) | ((with_reducible refine gate_store (t := 79) (p := 11) rfl ?_); refine store_event (t := 79) (p := 11) (v := ?vo_w39) (w1 := (((((((x9.setCell ⟨B, 0, none⟩ (.slice U ((rd_T79 l q).f0).length X)).setCell ⟨B, 1, none⟩ (.slice a0 ((rd_T79 l q).f1).length b0)).setCell ⟨B, 2, none⟩ (.int .i64 ((rd_T79 l q).f2.f0))).setCell ⟨B, 3, none⟩ (.int .i64 ((rd_T79 l q).f2.f1))).setCell ⟨B, 4, none⟩ (.slice c0 ((rd_T79 l q).f2.f2).length d0)).setCell ⟨B, 5, none⟩ (.bool ((rd_T79 l q).f3))).setCell ⟨B, 6, none⟩ (.slice e0 ((rd_T79 l q).f4).length g0))) ?hg ?ho ?hn ?hr ?_; (case ho => rfl); (case hg => rfl); (case hn => rfl); (case hr => first | (go_simp; done) | (go_simp; rfl)); intro q1 hw; have B0 : Aside0 (Kd.R Kd.bool 4 q1 w.heap.size (fun _ => True) v359 G0) := ⟨(by rw [hw]; exact (Kd.R_mono (zlR (Kd.R_types J.out y.out (by decide))) (fun _ hk => trivial)))⟩; have C0 : Aside0 (q1.heap[t1]? = some (.cells #[.slice i0 z.length m0, .slice n0 E.length o0, .slice p0 I.length q0, .slice (some G2) l.length s0, .slice t0 A.length x0] 34 (0, 0))) := ⟨(by rw [hw]; exact (zV u))⟩; have D0 : Aside0 (q1.heap[B]? = some (.cells #[.slice U ((rd_T79 l q).f0).length X, .slice a0 ((rd_T79 l q).f1).length b0, .int .i64 ((rd_T79 l q).f2.f0), .int .i64 ((rd_T79 l q).f2.f1), .slice c0 ((rd_T79 l q).f2.f2).length d0, .bool ((rd_T79 l q).f3), .slice e0 ((rd_T79 l q).f4).length g0] 79 (0, 0))) := ⟨(by rw [hw]; exact (zW y))⟩; have I0 : Aside0 (Below w.heap.size w q1) := ⟨(by rw [hw]; exact zB)⟩; revert B0 C0 D0 I0; clear hw J u y HB; intro J u y HB; obtain ⟨G8, I8, J8, L8, M8, N8, O8, R8, S8, T8⟩ := zc5 u; have U8 : q1.cell? ⟨B, 0, none⟩ = some (.slice U ((rd_T79 l q).f0).length X) := zy y 0; have V8 : q1.cell? ⟨B, 1, none⟩ = some (.slice a0 ((rd_T79 l q).f1).length b0) := zy y 1; have X8 : q1.cell? ⟨B, 2, none⟩ = some (.int .i64 ((rd_T79 l q).f2.f0)) := zy y 2; have a9 : q1.cell? ⟨B, 3, none⟩ = some (.int .i64 ((rd_T79 l q).f2.f1)) := zy y 3; have b9 : q1.cell? ⟨B, 4, none⟩ = some (.slice c0 ((rd_T79 l q).f2.f2).length d0) := zy y 4; have c9 : q1.cell? ⟨B, 5, none⟩ = some (.bool ((rd_T79 l q).f3)) := zy y 5; have d9 : q1.cell? ⟨B, 6, none⟩ = some (.slice e0 ((rd_T79 l q).f4).length g0) := zy y 6; have e9 := zf y.out 0; have f9 := zf y.out 1; have g9 := zf y.out 2; have i9 := zf y.out 3; have j9 := zf y.out 4; have l9 := zf y.out 5; have m9 := zf y.out 6; obtain ⟨U6, V6, X6⟩ := Kd.R_slice J.out; subst X6) | ((with_reducible refine gc 48 rfl ?_); refine zF 85 Try.func48 #[.agg #[.slice i0 z.length m0, .slice n0 E.length o0, .slice p0 I.length q0, .slice (some G2) l.length s0, .slice t0 A.length x0], .agg #[.slice U ((rd_T79 l q).f0).length X, .slice a0 ((rd_T79 l q).f1).length b0, .int .i64 ((rd_T79 l q).f2.f0), .int .i64 ((rd_T79 l q).f2.f1), .slice c0 ((rd_T79 l q).f2.f2).length d0, .bool ((rd_T79 l q).f3), .slice e0 ((rd_T79 l q).f4).length g0], .slice U6 G0.length V6] rfl zL ?_; refine (impl_Nest_kernelOk.calls k4 _ _ z _ _ E _ _ I _ _ l _ _ A _ _ ((rd_T79 l q).f0) (fun k_ => k_ < w.heap.size) _ _ ((rd_T79 l q).f1) ((rd_T79 l q).f2.f0) ((rd_T79 l q).f2.f1) (fun k_ => k_ < w.heap.size) _ _ ((rd_T79 l q).f2.f2) ((rd_T79 l q).f3) _ _ ((rd_T79 l q).f4) _ _ G0 y4 true _ (zS i1) n3.out (zS o3) s3.out (zS t3) x3.out (zS s1) y3.out (zS j1) A3.out (zS X2) a3.out (Kd.V_mk c3.out (Kd.F_below (Kd.C_F k76_heap b3.out) zB)) (Kd.V_mk e3.out (Kd.F_below (Kd.C_F (Kd.heap_int .i64) d3.out) zB)) (zS g3) i3.out (zC (Kd.R_reads' J.out).2.2) ((Kd.R_reads' J.out).2.1) N6.out).mono ?_; rintro e R9 ⟨rfl, hb⟩; refine ⟨_, rfl, ?_⟩; have B0 := zK (Kd.R_below (zkR J) hb); have C0 := z7 u hb; have D0 := z7 y hb; have I0 := z8 hb; revert B0 C0 D0 I0; clear J u y HB; intro J u y HB))
   go_roundg k4
   case measure => have := V3.out; have := X3.out; have := V4.out; have := M6.out; omega
   case rel => exact ⟨(wrap64 (R3 + y4)), (wrap64 (q + 1)), zR, zR, H', ⟨by have := V3.out; have := X3.out; have := V4.out; have := M6.out; omega⟩, ⟨zkR J⟩, ⟨zM u⟩, ⟨zB⟩⟩
end Go.Proofs.Ytmcboiffbcnalaa.PFnExactLives
