-- Printed out of the translation by this session's own turned copy of a printer; Lean checks it.
import Derived.Test.YtmcboiffbcnalaaPFnExactPlanOkx0
import Derived.Test.YtmcboiffbcnalaaPFnExactPlanOkx15
import Derived.Test.YtmcboiffbcnalaaPFnExactPlanOkx19
namespace Go.Proofs.Ytmcboiffbcnalaa.PFnExactPlanOk
open Go.RowKit Go.Proofs.YtmcboiffbcnalaaW.PrintWords Go.Proofs.YtmcboiffbcnalaaW.PrintLast Go.Proofs.YtmcboiffbcnalaaW.PrintMore
attribute [local go_sem] max2_int min2_int max_two min_two max_three min_three max_four min_four
set_option linter.unusedVariables false
set_option linter.unusedSimpArgs false
set_option maxHeartbeats 8000000
set_option maxRecDepth 100000
mutual
def impl_NestOk.j0 : Nat → Bool → List Int → List Int → List (S71) → List (S79) → List Int → Option (Bool)
 | 0, _, _, _, _, _, _ => none
 | k + 1, y, a, l, q, u, x => if y = true then (some false) else (impl_NestOk.l0 k a (a.length : Int) 0 a l q u x)
def impl_NestOk.l0 : Nat → List Int → Int → Int → List Int → List Int → List (S71) → List (S79) → List Int → Option (Bool)
 | 0, _, _, _, _, _, _, _, _ => none
 | k + 1, z, A, l, q, u, x, y, a => if l < A then (if 0 ≤ l then (if l < (z.length : Int) then (if (rd z l) < 0 then (some false) else (if (rd z l) > 4096 then (some false) else (impl_NestOk.l0 k z A (wrap64 (l + 1)) q u x y a))) else (none)) else (none)) else (impl_NestOk.l1 k a (a.length : Int) 0 q u x y a)
def impl_NestOk.l1 : Nat → List Int → Int → Int → List Int → List Int → List (S71) → List (S79) → List Int → Option (Bool)
 | 0, _, _, _, _, _, _, _, _ => none
 | k + 1, z, B, y, l, q, u, a, x => if y < B then (if 0 ≤ y then (if y < (z.length : Int) then (if (rd z y) < 0 then (some false) else (if (rd z y) ≥ (l.length : Int) then (some false) else (impl_NestOk.l1 k z B (wrap64 (y + 1)) l q u a x))) else (none)) else (none)) else ((impl_Nest_given.f l q u a x).bind fun A => (if A.2 = true then (impl_NestOk.l2 k A.1 0 a (a.length : Int) 0 l q u a x) else (some false)))
def impl_NestOk.l2 : Nat → List Bool → Int → List (S79) → Int → Int → List Int → List Int → List (S71) → List (S79) → List Int → Option (Bool)
 | 0, _, _, _, _, _, _, _, _, _, _ => none
 | k + 1, D, E, l, B, a, q, u, x, y, z => if a < B then (if 0 ≤ a then (if a < (l.length : Int) then ((impl_Nest_kernelOk.f k q u x y z ((rd_T79 l a).f0) ((rd_T79 l a).f1) ((rd_T79 l a).f2.f0) ((rd_T79 l a).f2.f1) ((rd_T79 l a).f2.f2) ((rd_T79 l a).f3) ((rd_T79 l a).f4) D).bind fun A => (if A.2 = true then (impl_NestOk.l2 k D (wrap64 (E + A.1)) l B (wrap64 (a + 1)) q u x y z) else (some false))) else (none)) else (none)) else (some (decide (E ≤ 1000000)))
end
def impl_NestOk.f (k : Nat) (a : List Int) (l : List Int) (x : List (S71)) (q : List (S79)) (u : List Int) : Option (Bool) := if (a.length : Int) > 200 then (impl_NestOk.j0 k true a l x q u) else (if (l.length : Int) > 40 then (impl_NestOk.j0 k true a l x q u) else (if (u.length : Int) > 40 then (impl_NestOk.j0 k true a l x q u) else (impl_NestOk.j0 k (decide ((q.length : Int) > 400)) a l x q u)))
theorem impl_NestOk.calls (k) (d0) (e0) (x : List Int) (g0) (i0) (A : List Int) (m0) (n0) (B : List (S71)) (b1) (o0) (a : List (S79)) (p0) (q0) (y : List Int) (r : Bool) (w) (B4 : Kd.C (Kd.int .i64) w d0 x.length x) (C4 : x.length ≤ e0) (D4 : Kd.C (Kd.int .i64) w g0 A.length A) (E4 : A.length ≤ i0) (F4 : Kd.C k71 w m0 B.length B) (G4 : B.length ≤ n0) (I4 : Kd.C k79 w b1 a.length a) (J4 : a.length ≤ o0) (L4 : Kd.C (Kd.int .i64) w p0 y.length y) (M4 : y.length ≤ q0) (h : impl_NestOk.f k x A B a y = some r) :
 Calls Try.prog 24 #[.agg #[.slice d0 x.length e0, .slice g0 A.length i0, .slice m0 B.length n0, .slice b1 a.length o0, .slice p0 y.length q0]] w fun e w' => e = .returned (.bool r) ∧ Below w.heap.size w w' := by
 have E9 := Try.underlying34
 have F9 := Try.underlying79
 have d1 := zK B4
 have j3 := zK C4
 clear B4 C4
 have l3 := zK D4
 have m3 := zK E4
 clear D4 E4
 have n3 := zK F4
 have o3 := zK G4
 clear F4 G4
 have o1 := zK I4
 have p3 := zK J4
 clear I4 J4
 have e1 := zK L4
 have q3 := zK M4
 clear L4 M4
 have HB := zK (Below.refl w.heap.size w)
 have H : (if (x.length : Int) > 200 then (impl_NestOk.j0 k true x A B a y) else (if (A.length : Int) > 40 then (impl_NestOk.j0 k true x A B a y) else (if (y.length : Int) > 40 then (impl_NestOk.j0 k true x A B a y) else (impl_NestOk.j0 k (decide ((a.length : Int) > 400)) x A B a y)))) = some r := h
 clear h
 have j6 := zK H
 clear H
 go_enter Try.func24, Try.ntmps24
 go_upto_region 1 with (first | ((with_reducible refine gd 1 rfl ?_); (try (refine gate_guard (by rfl) ?_; dsimp only)); refine zJ 1 #[.slice d0 x.length e0, .slice g0 A.length i0, .slice m0 B.length n0, .slice b1 a.length o0, .slice p0 y.length q0] 34 ?_; intro p1 hg w3 hbox hb; have x0 := z8 hb; have y0 := zK (hbox); have A0 := z9 hg; have E0 := z9 hg; revert x0 y0 A0 E0; clear HB; intro HB q s9 t9; clear hb hbox hg))
 (try simp only [Act.put, zq1, zq2, zq3])
 go_cut [35] (fun v35 wc => ∃ (kq : Nat) (s3 : Bool), v35 = .bool s3 ∧ Aside0 (impl_NestOk.j0 kq s3 x A B a y = some r) ∧ Aside0 (kq ≤ k) ∧ Aside0 (wc.heap[p1]? = some (.cells #[(.slice d0 x.length e0), (.slice g0 A.length i0), (.slice m0 B.length n0), (.slice b1 a.length o0), (.slice p0 y.length q0)] 34 (0, 0))) ∧ Aside0 (Below w.heap.size w wc))
 case first =>
  have H := j6.out
  clear j6
  by_cases c4 : (x.length : Int) > 200
  · rw [if_pos c4] at H
    have g1 := z1 c4
    have t3 : decide (200 < x.length) = true := z1 (by omega)
    clear c4
    (first | rw [g1] | (simp only [i64_w, i32_w]; rw [g1]) | skip)
    have H' := zK H
    clear H
    obtain ⟨I1, J1, L1, M1, N1, O1, R1, S1, T1, U1⟩ := zc5 q
    go_wp2
    go_meet
    case rel => exact ⟨_, (true), zR, H', ⟨by first | omega | exact Nat.le_refl _⟩, ⟨zM q⟩, ⟨zB⟩⟩
  rw [if_neg c4] at H
  have g1 := z2 c4
  have t3 : decide (200 < x.length) = false := z2 (by omega)
  clear c4
  (first | rw [g1] | (simp only [i64_w, i32_w]; rw [g1]) | skip)
  by_cases c6 : (A.length : Int) > 40
  · rw [if_pos c6] at H
    have x3 := z1 c6
    have y3 : decide (40 < A.length) = true := z1 (by omega)
    clear c6
    have H' := zK H
    clear H
    obtain ⟨V1, X1, a2, b2, d2, e2, g2, i2, j2, m2⟩ := zc5 q
    go_wp2
    go_meet
    case rel => exact ⟨_, (true), zR, H', ⟨by first | omega | exact Nat.le_refl _⟩, ⟨zM q⟩, ⟨zB⟩⟩
  rw [if_neg c6] at H
  have x3 := z2 c6
  have y3 : decide (40 < A.length) = false := z2 (by omega)
  clear c6
  by_cases c8 : (y.length : Int) > 40
  · rw [if_pos c8] at H
    have A3 := z1 c8
    have B3 : decide (40 < y.length) = true := z1 (by omega)
    clear c8
    have H' := zK H
    clear H
    obtain ⟨n2, o2, q2, s2, t2, x2, y2, A2, B2, C2⟩ := zc5 q
    go_wp2
    go_meet
    case rel => exact ⟨_, (true), zR, H', ⟨by first | omega | exact Nat.le_refl _⟩, ⟨zM q⟩, ⟨zB⟩⟩
  rw [if_neg c8] at H
  have A3 := z2 c8
  have B3 : decide (40 < y.length) = false := z2 (by omega)
  clear c8
  have H' := zK H
  clear H
  obtain ⟨q1, s1, t1, x1, y1, A1, B1, C1, D1, E1⟩ := zc5 q
  go_wp2
  go_meet
  case rel => exact ⟨_, (decide ((a.length : Int) > 400)), zR, H', ⟨by first | omega | exact Nat.le_refl _⟩, ⟨zM q⟩, ⟨zB⟩⟩
 case rest =>
  clear j6
  try clear c2
  try clear p2
  try clear c4
  try clear g1
  try clear t3
  try clear c6
  try clear x3
  try clear y3
  try clear c8
  try clear A3
  try clear B3
  try clear q1 s1 t1 x1 y1 A1 B1 C1 D1 E1
  try clear I1 J1 L1 M1 N1 O1 R1 S1 T1 U1
  try clear V1 X1 a2 b2 d2 e2 g2 i2 j2 m2
  try clear n2 o2 q2 s2 t2 x2 y2 A2 B2 C2
  obtain ⟨kq, s3, rfl, HA, O3, q, HB⟩ := hcut
  cases kq with
  | zero => exact absurd HA.out (by simp [impl_NestOk.j0])
  | succ F6 =>
   have H := HA.out
   clear HA
   simp only [impl_NestOk.j0] at H
   by_cases C3 : s3 = true
   · subst C3
     rw [if_pos rfl] at H
     obtain rfl := z5 H
     go_wp2
     go_ret
     exact ⟨zE, zB⟩
   replace C3 := Bool.eq_false_iff.mpr C3
   subst C3
   rw [if_neg (show ¬ (false = true) by decide)] at H
   have H' := zK H
   clear H
   obtain ⟨E2, F2, G2, I2, J2, L2, M2, N2, O2, R2⟩ := zc5 q
   go_wp2
   go_loopg [39] F6 (fun kq v39 w' => ∃ (E : Int), v39 = .int .i64 E ∧ Aside0 (impl_NestOk.l0 kq x (x.length : Int) E x A B a y = some r) ∧ Aside0 (kq ≤ F6) ∧ Aside0 (w'.heap[p1]? = some (.cells #[(.slice d0 x.length e0), (.slice g0 A.length i0), (.slice m0 B.length n0), (.slice b1 a.length o0), (.slice p0 y.length q0)] 34 (0, 0))) ∧ Aside0 (Below w.heap.size w w'))
   case atStart => exact ⟨(0), zR, H', ⟨Nat.le_refl _⟩, ⟨zM q⟩, ⟨zB⟩⟩
   clear H'
   try clear c1
   try clear c2
   try clear p2
   try clear c4
   try clear g1
   try clear t3
   try clear c6
   try clear x3
   try clear y3
   try clear c8
   try clear A3
   try clear B3
   try clear C3
   try clear q1 s1 t1 x1 y1 A1 B1 C1 D1 E1
   try clear E2 F2 G2 I2 J2 L2 M2 N2 O2 R2
   try clear I1 J1 L1 M1 N1 O1 R1 S1 T1 U1
   try clear V1 X1 a2 b2 d2 e2 g2 i2 j2 m2
   try clear n2 o2 q2 s2 t2 x2 y2 A2 B2 C2
   try clear p2
   obtain ⟨E, rfl, HA, R3, q, HB⟩ := hrel
   rcases gk with _ | k2
   · exact absurd HA.out (by simp [impl_NestOk.l0])
   have H := HA.out
   clear HA
   simp only [impl_NestOk.l0] at H
   by_cases e3 : E < (x.length : Int)
   · rw [if_pos e3] at H
     have m4 := z1 e3
     clear e3
     by_cases S3 : 0 ≤ E
     rotate_left
     · rw [if_neg S3] at H
       exact absurd H (by simp)
     rw [if_pos S3] at H
     have N4 := z1 S3
     clear S3
     by_cases T3 : E < (x.length : Int)
     rotate_left
     · rw [if_neg T3] at H
       exact absurd H (by simp)
     rw [if_pos T3] at H
     have O4 := z1 T3
     clear T3
     by_cases g3 : (rd x E) < 0
     · rw [if_pos g3] at H
       have n4 := z1 g3
       clear g3
       obtain rfl := z5 H
       have s0 : 0 ≤ (E : Int) := z3
       have t0 : E < (x.length : Int) := z3
       obtain ⟨R4, D3, J⟩ := Kd.at_int d1.out E s0 t0
       cases D3
       (try replace J := zX HB J)
       replace s0 := eq_true s0
       replace t0 := eq_true t0
       go_wp2
       go_ret
       exact ⟨zE, zB⟩
     rw [if_neg g3] at H
     have n4 := z2 g3
     clear g3
     by_cases i3 : (rd x E) > 4096
     · rw [if_pos i3] at H
       have o4 := z1 i3
       clear i3
       obtain rfl := z5 H
       have s0 : 0 ≤ (E : Int) := z3
       have t0 : E < (x.length : Int) := z3
       obtain ⟨R4, D3, J⟩ := Kd.at_int d1.out E s0 t0
       cases D3
       (try replace J := zX HB J)
       replace s0 := eq_true s0
       replace t0 := eq_true t0
       go_wp2
       go_ret
       exact ⟨zE, zB⟩
     rw [if_neg i3] at H
     have o4 := z2 i3
     clear i3
     have H' := zK H
     clear H
     have s0 : 0 ≤ (E : Int) := z3
     have t0 : E < (x.length : Int) := z3
     obtain ⟨R4, D3, J⟩ := Kd.at_int d1.out E s0 t0
     cases D3
     (try replace J := zX HB J)
     replace s0 := eq_true s0
     replace t0 := eq_true t0
     go_wp2
     go_roundg k2
     case measure => have := O3.out; have := R3.out; omega
     case rel => exact ⟨(wrap64 (E + 1)), zR, H', ⟨by have := O3.out; have := R3.out; omega⟩, ⟨zM q⟩, ⟨zB⟩⟩
   rw [if_neg e3] at H
   have m4 := z2 e3
   clear e3
   have H' := zK H
   clear H
   obtain ⟨U3, V3, X3, a4, b4, d4, e4, g4, i4, j4⟩ := zc5 q
   go_wp2
   go_loopg [53] k2 (fun kq v53 w' => ∃ (I : Int), v53 = .int .i64 I ∧ Aside0 (impl_NestOk.l1 kq y (y.length : Int) I x A B a y = some r) ∧ Aside0 (kq ≤ k2) ∧ Aside0 (w'.heap[p1]? = some (.cells #[(.slice d0 x.length e0), (.slice g0 A.length i0), (.slice m0 B.length n0), (.slice b1 a.length o0), (.slice p0 y.length q0)] 34 (0, 0))) ∧ Aside0 (Below w.heap.size w w'))
   case atStart => exact ⟨(0), zR, H', ⟨Nat.le_refl _⟩, ⟨zM q⟩, ⟨zB⟩⟩
   clear H'
   try clear c1
   try clear c2
   try clear p2
   try clear c4
   try clear g1
   try clear t3
   try clear p4
   try clear q4
   try clear n9
   try clear c6
   try clear x3
   try clear y3
   try clear p6
   try clear c8
   try clear A3
   try clear B3
   try clear C3
   try clear e3
   try clear m4
   try clear S3
   try clear N4
   try clear T3
   try clear O4
   try clear g3
   try clear n4
   try clear i3
   try clear o4
   try clear q1 s1 t1 x1 y1 A1 B1 C1 D1 E1
   try clear E2 F2 G2 I2 J2 L2 M2 N2 O2 R2
   try clear U3 V3 X3 a4 b4 d4 e4 g4 i4 j4
   try clear I1 J1 L1 M1 N1 O1 R1 S1 T1 U1
   try clear V1 X1 a2 b2 d2 e2 g2 i2 j2 m2
   try clear n2 o2 q2 s2 t2 x2 y2 A2 B2 C2
   try clear J
   try clear p2
   try clear s0
   try clear t0
   obtain ⟨I, rfl, HA, S4, q, HB⟩ := hrel
   rcases gk with _ | k3
   · exact absurd HA.out (by simp [impl_NestOk.l1])
   have H := HA.out
   clear HA
   simp only [impl_NestOk.l1] at H
   by_cases E3 : I < (y.length : Int)
   · rw [if_pos E3] at H
     have T4 := z1 E3
     clear E3
     by_cases t4 : 0 ≤ I
     rotate_left
     · rw [if_neg t4] at H
       exact absurd H (by simp)
     rw [if_pos t4] at H
     have A6 := z1 t4
     clear t4
     by_cases x4 : I < (y.length : Int)
     rotate_left
     · rw [if_neg x4] at H
       exact absurd H (by simp)
     rw [if_pos x4] at H
     have B6 := z1 x4
     clear x4
     by_cases F3 : (rd y I) < 0
     · rw [if_pos F3] at H
       have U4 := z1 F3
       clear F3
       obtain rfl := z5 H
       have B0 : 0 ≤ (I : Int) := z3
       have C0 : I < (y.length : Int) := z3
       obtain ⟨V4, G3, L⟩ := Kd.at_int e1.out I B0 C0
       cases G3
       (try replace L := zX HB L)
       replace B0 := eq_true B0
       replace C0 := eq_true C0
       go_wp2
       go_ret
       exact ⟨zE, zB⟩
     rw [if_neg F3] at H
     have U4 := z2 F3
     clear F3
     by_cases I3 : (rd y I) ≥ (x.length : Int)
     · rw [if_pos I3] at H
       have X4 := z1 I3
       clear I3
       obtain rfl := z5 H
       have B0 : 0 ≤ (I : Int) := z3
       have C0 : I < (y.length : Int) := z3
       obtain ⟨V4, G3, L⟩ := Kd.at_int e1.out I B0 C0
       cases G3
       (try replace L := zX HB L)
       replace B0 := eq_true B0
       replace C0 := eq_true C0
       obtain ⟨f5, g5, i5, j5, l5, m5, n5, o5, p5, q5⟩ := zc5 q
       go_wp2
       go_ret
       exact ⟨zE, zB⟩
     rw [if_neg I3] at H
     have X4 := z2 I3
     clear I3
     have H' := zK H
     clear H
     have B0 : 0 ≤ (I : Int) := z3
     have C0 : I < (y.length : Int) := z3
     obtain ⟨V4, G3, L⟩ := Kd.at_int e1.out I B0 C0
     cases G3
     (try replace L := zX HB L)
     replace B0 := eq_true B0
     replace C0 := eq_true C0
     obtain ⟨s5, t5, x5, y5, A5, B5, C5, D5, E5, F5⟩ := zc5 q
     go_wp2
     go_roundg k3
     case measure => have := O3.out; have := R3.out; have := S4.out; omega
     case rel => exact ⟨(wrap64 (I + 1)), zR, H', ⟨by have := O3.out; have := R3.out; have := S4.out; omega⟩, ⟨zM q⟩, ⟨zB⟩⟩
   rw [if_neg E3] at H
   have T4 := z2 E3
   clear E3
   replace H := z6 H
   obtain ⟨⟨D0, l6⟩, m6, H⟩ := H
   replace H : (if l6 = true then (impl_NestOk.l2 k3 D0 0 a (a.length : Int) 0 x A B a y) else (some false)) = some r := H
   have G6 := zK m6
   clear m6
   by_cases y4 : l6 = true
   rotate_left
   · replace y4 := Bool.eq_false_iff.mpr y4
     subst y4
     rw [if_neg (show ¬ (false = true) by decide)] at H
     obtain rfl := z5 H
     obtain ⟨U6, V6, X6, a7, b7, c7, d7, e7, f7, g7⟩ := zc5 q
     go_wp2_with (first | ((with_reducible refine gc 47 rfl ?_); refine zF 69 Try.func47 #[.agg #[.slice d0 x.length e0, .slice g0 A.length i0, .slice m0 B.length n0, .slice b1 a.length o0, .slice p0 y.length q0]] rfl zL ?_; refine (impl_Nest_given.calls _ _ x _ _ A _ _ B _ _ a _ _ y D0 false _ (zS d1) j3.out (zS l3) m3.out (zS n3) o3.out (zS o1) p3.out (zS e1) q3.out G6.out).mono ?_; rintro e G9 ⟨v422, rfl, n6, hb⟩; refine ⟨_, rfl, ?_⟩; have x0 := zK (Kd.R_lower n6 (zz zB)); have y0 := z7 q hb; have A0 := z8 hb; revert x0 y0 A0; clear q HB; intro a5 q HB))
     go_ret
     exact ⟨zE, zB⟩
   subst y4
   rw [if_pos rfl] at H
   have H' := zK H
   clear H
   obtain ⟨G5, I5, J5, L5, M5, N5, O5, R5, S5, T5⟩ := zc5 q
   go_wp2_with (first | ((with_reducible refine gc 47 rfl ?_); refine zF 69 Try.func47 #[.agg #[.slice d0 x.length e0, .slice g0 A.length i0, .slice m0 B.length n0, .slice b1 a.length o0, .slice p0 y.length q0]] rfl zL ?_; refine (impl_Nest_given.calls _ _ x _ _ A _ _ B _ _ a _ _ y D0 true _ (zS d1) j3.out (zS l3) m3.out (zS n3) o3.out (zS o1) p3.out (zS e1) q3.out G6.out).mono ?_; rintro e I9 ⟨v422, rfl, n6, hb⟩; refine ⟨_, rfl, ?_⟩; have x0 := zK (Kd.R_lower n6 (zz zB)); have y0 := z7 q hb; have A0 := z8 hb; revert x0 y0 A0; clear q HB; intro a5 q HB; obtain ⟨U5, V5, X5, a6, b6, d6, e6, f6, g6, i6⟩ := zc5 q))
   go_loopg [9, 77] k3 (fun kq v9 v77 w' => ∃ (J3 : Int) (l : Int), v9 = .int .i64 J3 ∧ v77 = .int .i64 l ∧ Aside0 (impl_NestOk.l2 kq D0 J3 a (a.length : Int) l x A B a y = some r) ∧ Aside0 (kq ≤ k3) ∧ Aside0 (Kd.R Kd.bool 4 w' w.heap.size (fun _ => True) v422 D0) ∧ Aside0 (w'.heap[p1]? = some (.cells #[(.slice d0 x.length e0), (.slice g0 A.length i0), (.slice m0 B.length n0), (.slice b1 a.length o0), (.slice p0 y.length q0)] 34 (0, 0))) ∧ Aside0 (Below w.heap.size w w'))
   case atStart => exact ⟨(0), (0), zR, zR, H', ⟨Nat.le_refl _⟩, ⟨zkR a5⟩, ⟨zM q⟩, ⟨zB⟩⟩
   clear H'
   try clear c1
   try clear c2
   try clear p2
   try clear c4
   try clear g1
   try clear t3
   try clear p4
   try clear q4
   try clear n9
   try clear c6
   try clear x3
   try clear y3
   try clear p6
   try clear c8
   try clear A3
   try clear B3
   try clear C3
   try clear e3
   try clear m4
   try clear S3
   try clear N4
   try clear T3
   try clear O4
   try clear g3
   try clear n4
   try clear i3
   try clear o4
   try clear E3
   try clear T4
   try clear t4
   try clear A6
   try clear x4
   try clear B6
   try clear F3
   try clear U4
   try clear I3
   try clear X4
   try clear J9
   try clear y4
   try clear q1 s1 t1 x1 y1 A1 B1 C1 D1 E1
   try clear E2 F2 G2 I2 J2 L2 M2 N2 O2 R2
   try clear U3 V3 X3 a4 b4 d4 e4 g4 i4 j4
   try clear f5 g5 i5 j5 l5 m5 n5 o5 p5 q5
   try clear s5 t5 x5 y5 A5 B5 C5 D5 E5 F5
   try clear G5 I5 J5 L5 M5 N5 O5 R5 S5 T5
   try clear U5 V5 X5 a6 b6 d6 e6 f6 g6 i6
   try clear I1 J1 L1 M1 N1 O1 R1 S1 T1 U1
   try clear V1 X1 a2 b2 d2 e2 g2 i2 j2 m2
   try clear n2 o2 q2 s2 t2 x2 y2 A2 B2 C2
   try clear J
   try clear L
   try clear p2
   try clear p4
   try clear s0
   try clear B0
   try clear p6
   try clear q4
   try clear t0
   try clear C0
   obtain ⟨J3, l, rfl, rfl, HA, I6, D, q, HB⟩ := hrel
   rcases gk with _ | k4
   · exact absurd HA.out (by simp [impl_NestOk.l2])
   have H := HA.out
   clear HA
   simp only [impl_NestOk.l2] at H
   by_cases l4 : l < (a.length : Int)
   rotate_left
   · rw [if_neg l4] at H
     have C6 := z2 l4
     clear l4
     obtain rfl := z5 H
     go_wp2
     go_ret
     exact ⟨zE, zB⟩
   rw [if_pos l4] at H
   have C6 := z1 l4
   clear l4
   by_cases b5 : 0 ≤ l
   rotate_left
   · rw [if_neg b5] at H
     exact absurd H (by simp)
   rw [if_pos b5] at H
   have x9 := z1 b5
   clear b5
   by_cases c5 : l < (a.length : Int)
   rotate_left
   · rw [if_neg c5] at H
     exact absurd H (by simp)
   rw [if_pos c5] at H
   have y9 := z1 c5
   clear c5
   replace H := z6 H
   obtain ⟨⟨s4, o6⟩, q6, H⟩ := H
   replace H : (if o6 = true then (impl_NestOk.l2 k4 D0 (wrap64 (J3 + s4)) a (a.length : Int) (wrap64 (l + 1)) x A B a y) else (some false)) = some r := H
   have J6 := zK q6
   clear q6
   by_cases d5 : o6 = true
   rotate_left
   · replace d5 := Bool.eq_false_iff.mpr d5
     subst d5
     rw [if_neg (show ¬ (false = true) by decide)] at H
     obtain rfl := z5 H
     have F1 : 0 ≤ (l : Int) := z3
     have G1 : l < (a.length : Int) := z3
     obtain ⟨D2, M, O, T, U, X, a0, b0, c0, A4, F0, G0, I0, J0, L0, M0, N0, O0, R0, S0, T0, U0, V0, X0, a1⟩ := at_T79 o1.out l F1 G1
     cases A4
     (try replace F0 := zX HB F0)
     (try replace G0 := zX HB G0)
     (try replace I0 := zX HB I0)
     (try replace J0 := zX HB J0)
     (try replace L0 := zX HB L0)
     (try replace M0 := zX HB M0)
     (try replace N0 := zX HB N0)
     have T2 := zK R0
     have U2 := zK O0
     clear R0 O0
     have V2 := zK T0
     have X2 := zK S0
     clear T0 S0
     have a3 := zK V0
     have b3 := zK U0
     clear V0 U0
     have c3 := zK a1
     have d3 := zK X0
     clear a1 X0
     replace F1 := eq_true F1
     replace G1 := eq_true G1
     go_wp2_with (first | ((with_reducible refine gd 11 rfl ?_); (try (refine gate_guard (by rfl) ?_; dsimp only)); refine zJ 11 #[.slice none 0 0, .slice none 0 0, .int .i64 0, .int .i64 0, .slice none 0 0, .bool false, .slice none 0 0] 79 ?_; intro z hg p9 hbox hb; have x0 := zK (Kd.R_below (zkR D) hb); have y0 := z7 q hb; have A0 := z8 hb; have E0 := zK (hbox); have s6 := z9 hg; have t6 := z9 hg; have x6 := zHH hg q; have y6 := zGG hg q; revert x0 y0 A0 E0 s6 t6 x6 y6; clear D q HB; intro D q HB u D6 E6 i1 j1; clear hb hbox hg; have A9 := j1.out; have B9 := i1.out; obtain ⟨i7, j7, l7, m7, n7, o7, p7, q7, s7, t7, x7, y7, A7, B7⟩ := zc7 u) | ((with_reducible refine gate_store (t := 79) (p := 11) rfl ?_); refine store_event (t := 79) (p := 11) (v := ?vo_w47) (w1 := (((((((p9.setCell ⟨z, 0, none⟩ (.slice M ((rd_T79 a l).f0).length O)).setCell ⟨z, 1, none⟩ (.slice T ((rd_T79 a l).f1).length U)).setCell ⟨z, 2, none⟩ (.int .i64 ((rd_T79 a l).f2.f0))).setCell ⟨z, 3, none⟩ (.int .i64 ((rd_T79 a l).f2.f1))).setCell ⟨z, 4, none⟩ (.slice X ((rd_T79 a l).f2.f2).length a0)).setCell ⟨z, 5, none⟩ (.bool ((rd_T79 a l).f3))).setCell ⟨z, 6, none⟩ (.slice b0 ((rd_T79 a l).f4).length c0))) ?hg ?ho ?hn ?hr ?_; (case ho => rfl); (case hg => rfl); (case hn => rfl); (case hr => first | (go_simp; done) | (go_simp; rfl)); intro m1 hw; have x0 : Aside0 (Kd.R Kd.bool 4 m1 w.heap.size (fun _ => True) v422 D0) := ⟨(by rw [hw]; exact (Kd.R_mono (zlR (Kd.R_types D.out u.out (by decide))) (fun _ hk => trivial)))⟩; have y0 : Aside0 (m1.heap[p1]? = some (.cells #[.slice d0 x.length e0, .slice g0 A.length i0, .slice m0 B.length n0, .slice (some D2) a.length o0, .slice p0 y.length q0] 34 (0, 0))) := ⟨(by rw [hw]; exact (zV q))⟩; have A0 : Aside0 (m1.heap[z]? = some (.cells #[.slice M ((rd_T79 a l).f0).length O, .slice T ((rd_T79 a l).f1).length U, .int .i64 ((rd_T79 a l).f2.f0), .int .i64 ((rd_T79 a l).f2.f1), .slice X ((rd_T79 a l).f2.f2).length a0, .bool ((rd_T79 a l).f3), .slice b0 ((rd_T79 a l).f4).length c0] 79 (0, 0))) := ⟨(by rw [hw]; exact (zW u))⟩; have E0 : Aside0 (Below w.heap.size w m1) := ⟨(by rw [hw]; exact zB)⟩; revert x0 y0 A0 E0; clear hw D q u HB; intro D q u HB; obtain ⟨C7, D7, E7, F7, G7, I7, J7, L7, M7, N7⟩ := zc5 q; have O7 : m1.cell? ⟨z, 0, none⟩ = some (.slice M ((rd_T79 a l).f0).length O) := zy u 0; have R7 : m1.cell? ⟨z, 1, none⟩ = some (.slice T ((rd_T79 a l).f1).length U) := zy u 1; have S7 : m1.cell? ⟨z, 2, none⟩ = some (.int .i64 ((rd_T79 a l).f2.f0)) := zy u 2; have T7 : m1.cell? ⟨z, 3, none⟩ = some (.int .i64 ((rd_T79 a l).f2.f1)) := zy u 3; have U7 : m1.cell? ⟨z, 4, none⟩ = some (.slice X ((rd_T79 a l).f2.f2).length a0) := zy u 4; have V7 : m1.cell? ⟨z, 5, none⟩ = some (.bool ((rd_T79 a l).f3)) := zy u 5; have X7 : m1.cell? ⟨z, 6, none⟩ = some (.slice b0 ((rd_T79 a l).f4).length c0) := zy u 6; have a8 := zf u.out 0; have b8 := zf u.out 1; have d8 := zf u.out 2; have e8 := zf u.out 3; have f8 := zf u.out 4; have g8 := zf u.out 5; have i8 := zf u.out 6; obtain ⟨M6, N6, O6⟩ := Kd.R_slice D.out; subst O6) | ((with_reducible refine gc 48 rfl ?_); refine zF 85 Try.func48 #[.agg #[.slice d0 x.length e0, .slice g0 A.length i0, .slice m0 B.length n0, .slice (some D2) a.length o0, .slice p0 y.length q0], .agg #[.slice M ((rd_T79 a l).f0).length O, .slice T ((rd_T79 a l).f1).length U, .int .i64 ((rd_T79 a l).f2.f0), .int .i64 ((rd_T79 a l).f2.f1), .slice X ((rd_T79 a l).f2.f2).length a0, .bool ((rd_T79 a l).f3), .slice b0 ((rd_T79 a l).f4).length c0], .slice M6 D0.length N6] rfl zL ?_; refine (impl_Nest_kernelOk.calls k4 _ _ x _ _ A _ _ B _ _ a _ _ y _ _ ((rd_T79 a l).f0) (fun k_ => k_ < w.heap.size) _ _ ((rd_T79 a l).f1) ((rd_T79 a l).f2.f0) ((rd_T79 a l).f2.f1) (fun k_ => k_ < w.heap.size) _ _ ((rd_T79 a l).f2.f2) ((rd_T79 a l).f3) _ _ ((rd_T79 a l).f4) _ _ D0 s4 false _ (zS d1) j3.out (zS l3) m3.out (zS n3) o3.out (zS o1) p3.out (zS e1) q3.out (zS T2) U2.out (Kd.V_mk X2.out (Kd.F_below (Kd.C_F k76_heap V2.out) zB)) (Kd.V_mk b3.out (Kd.F_below (Kd.C_F (Kd.heap_int .i64) a3.out) zB)) (zS c3) d3.out (zC (Kd.R_reads' D.out).2.2) ((Kd.R_reads' D.out).2.1) J6.out).mono ?_; rintro e L9 ⟨rfl, hb⟩; refine ⟨_, rfl, ?_⟩; have x0 := zK (Kd.R_below (zkR D) hb); have y0 := z7 q hb; have A0 := z7 u hb; have E0 := z8 hb; revert x0 y0 A0 E0; clear D q u HB; intro D q u HB))
     go_ret
     exact ⟨zE, zB⟩
   subst d5
   rw [if_pos rfl] at H
   have H' := zK H
   clear H
   have F1 : 0 ≤ (l : Int) := z3
   have G1 : l < (a.length : Int) := z3
   obtain ⟨D2, M, O, T, U, X, a0, b0, c0, A4, F0, G0, I0, J0, L0, M0, N0, O0, R0, S0, T0, U0, V0, X0, a1⟩ := at_T79 o1.out l F1 G1
   cases A4
   (try replace F0 := zX HB F0)
   (try replace G0 := zX HB G0)
   (try replace I0 := zX HB I0)
   (try replace J0 := zX HB J0)
   (try replace L0 := zX HB L0)
   (try replace M0 := zX HB M0)
   (try replace N0 := zX HB N0)
   have T2 := zK R0
   have U2 := zK O0
   clear R0 O0
   have V2 := zK T0
   have X2 := zK S0
   clear T0 S0
   have a3 := zK V0
   have b3 := zK U0
   clear V0 U0
   have c3 := zK a1
   have d3 := zK X0
   clear a1 X0
   replace F1 := eq_true F1
   replace G1 := eq_true G1
   go_wp2_with (first | ((with_reducible refine gd 11 rfl ?_); (try (refine gate_guard (by rfl) ?_; dsimp only)); refine zJ 11 #[.slice none 0 0, .slice none 0 0, .int .i64 0, .int .i64 0, .slice none 0 0, .bool false, .slice none 0 0] 79 ?_; intro z hg q9 hbox hb; have x0 := zK (Kd.R_below (zkR D) hb); have y0 := z7 q hb; have A0 := z8 hb; have E0 := zK (hbox); have s6 := z9 hg; have t6 := z9 hg; have x6 := zHH hg q; have y6 := zGG hg q; revert x0 y0 A0 E0 s6 t6 x6 y6; clear D q HB; intro D q HB u D6 E6 i1 j1; clear hb hbox hg; have C9 := j1.out; have D9 := i1.out; obtain ⟨j8, l8, m8, n8, o8, p8, q8, s8, t8, x8, y8, A8, B8, C8⟩ := zc7 u) | ((with_reducible refine gate_store (t := 79) (p := 11) rfl ?_); refine store_event (t := 79) (p := 11) (v := ?vo_w39) (w1 := (((((((q9.setCell ⟨z, 0, none⟩ (.slice M ((rd_T79 a l).f0).length O)).setCell ⟨z, 1, none⟩ (.slice T ((rd_T79 a l).f1).length U)).setCell ⟨z, 2, none⟩ (.int .i64 ((rd_T79 a l).f2.f0))).setCell ⟨z, 3, none⟩ (.int .i64 ((rd_T79 a l).f2.f1))).setCell ⟨z, 4, none⟩ (.slice X ((rd_T79 a l).f2.f2).length a0)).setCell ⟨z, 5, none⟩ (.bool ((rd_T79 a l).f3))).setCell ⟨z, 6, none⟩ (.slice b0 ((rd_T79 a l).f4).length c0))) ?hg ?ho ?hn ?hr ?_; (case ho => rfl); (case hg => rfl); (case hn => rfl); (case hr => first | (go_simp; done) | (go_simp; rfl)); intro n1 hw; have x0 : Aside0 (Kd.R Kd.bool 4 n1 w.heap.size (fun _ => True) v422 D0) := ⟨(by rw [hw]; exact (Kd.R_mono (zlR (Kd.R_types D.out u.out (by decide))) (fun _ hk => trivial)))⟩; have y0 : Aside0 (n1.heap[p1]? = some (.cells #[.slice d0 x.length e0, .slice g0 A.length i0, .slice m0 B.length n0, .slice (some D2) a.length o0, .slice p0 y.length q0] 34 (0, 0))) := ⟨(by rw [hw]; exact (zV q))⟩; have A0 : Aside0 (n1.heap[z]? = some (.cells #[.slice M ((rd_T79 a l).f0).length O, .slice T ((rd_T79 a l).f1).length U, .int .i64 ((rd_T79 a l).f2.f0), .int .i64 ((rd_T79 a l).f2.f1), .slice X ((rd_T79 a l).f2.f2).length a0, .bool ((rd_T79 a l).f3), .slice b0 ((rd_T79 a l).f4).length c0] 79 (0, 0))) := ⟨(by rw [hw]; exact (zW u))⟩; have E0 : Aside0 (Below w.heap.size w n1) := ⟨(by rw [hw]; exact zB)⟩; revert x0 y0 A0 E0; clear hw D q u HB; intro D q u HB; obtain ⟨D8, E8, F8, G8, I8, J8, L8, M8, N8, O8⟩ := zc5 q; have R8 : n1.cell? ⟨z, 0, none⟩ = some (.slice M ((rd_T79 a l).f0).length O) := zy u 0; have S8 : n1.cell? ⟨z, 1, none⟩ = some (.slice T ((rd_T79 a l).f1).length U) := zy u 1; have T8 : n1.cell? ⟨z, 2, none⟩ = some (.int .i64 ((rd_T79 a l).f2.f0)) := zy u 2; have U8 : n1.cell? ⟨z, 3, none⟩ = some (.int .i64 ((rd_T79 a l).f2.f1)) := zy u 3; have V8 : n1.cell? ⟨z, 4, none⟩ = some (.slice X ((rd_T79 a l).f2.f2).length a0) := zy u 4; have X8 : n1.cell? ⟨z, 5, none⟩ = some (.bool ((rd_T79 a l).f3)) := zy u 5; have a9 : n1.cell? ⟨z, 6, none⟩ = some (.slice b0 ((rd_T79 a l).f4).length c0) := zy u 6; have b9 := zf u.out 0; have c9 := zf u.out 1; have d9 := zf u.out 2; have e9 := zf u.out 3; have f9 := zf u.out 4; have g9 := zf u.out 5; have i9 := zf u.out 6; obtain ⟨R6, S6, T6⟩ := Kd.R_slice D.out; subst T6) | ((with_reducible refine gc 48 rfl ?_); refine zF 85 Try.func48 #[.agg #[.slice d0 x.length e0, .slice g0 A.length i0, .slice m0 B.length n0, .slice (some D2) a.length o0, .slice p0 y.length q0], .agg #[.slice M ((rd_T79 a l).f0).length O, .slice T ((rd_T79 a l).f1).length U, .int .i64 ((rd_T79 a l).f2.f0), .int .i64 ((rd_T79 a l).f2.f1), .slice X ((rd_T79 a l).f2.f2).length a0, .bool ((rd_T79 a l).f3), .slice b0 ((rd_T79 a l).f4).length c0], .slice R6 D0.length S6] rfl zL ?_; refine (impl_Nest_kernelOk.calls k4 _ _ x _ _ A _ _ B _ _ a _ _ y _ _ ((rd_T79 a l).f0) (fun k_ => k_ < w.heap.size) _ _ ((rd_T79 a l).f1) ((rd_T79 a l).f2.f0) ((rd_T79 a l).f2.f1) (fun k_ => k_ < w.heap.size) _ _ ((rd_T79 a l).f2.f2) ((rd_T79 a l).f3) _ _ ((rd_T79 a l).f4) _ _ D0 s4 true _ (zS d1) j3.out (zS l3) m3.out (zS n3) o3.out (zS o1) p3.out (zS e1) q3.out (zS T2) U2.out (Kd.V_mk X2.out (Kd.F_below (Kd.C_F k76_heap V2.out) zB)) (Kd.V_mk b3.out (Kd.F_below (Kd.C_F (Kd.heap_int .i64) a3.out) zB)) (zS c3) d3.out (zC (Kd.R_reads' D.out).2.2) ((Kd.R_reads' D.out).2.1) J6.out).mono ?_; rintro e M9 ⟨rfl, hb⟩; refine ⟨_, rfl, ?_⟩; have x0 := zK (Kd.R_below (zkR D) hb); have y0 := z7 q hb; have A0 := z7 u hb; have E0 := z8 hb; revert x0 y0 A0 E0; clear D q u HB; intro D q u HB))
   go_roundg k4
   case measure => have := O3.out; have := R3.out; have := S4.out; have := I6.out; omega
   case rel => exact ⟨(wrap64 (J3 + s4)), (wrap64 (l + 1)), zR, zR, H', ⟨by have := O3.out; have := R3.out; have := S4.out; have := I6.out; omega⟩, ⟨zkR D⟩, ⟨zM q⟩, ⟨zB⟩⟩
end Go.Proofs.Ytmcboiffbcnalaa.PFnExactPlanOk
