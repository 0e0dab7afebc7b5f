-- Printed out of the translation by this session's own turned copy of a printer; Lean checks it.
import Derived.Test.YtmcboiffbcnalaaPFnExactPlanOkx0
namespace Go.Proofs.Ytmcboiffbcnalaa.PFnExactPlanOk
open Go.RowKit Go.Proofs.YtmcboiffbcnalaaW.PrintWords Go.Proofs.YtmcboiffbcnalaaW.PrintLast Go.Proofs.YtmcboiffbcnalaaW.PrintMore
attribute [local go_sem] max2_int min2_int max_two min_two max_three min_three max_four min_four
set_option linter.unusedVariables false
set_option linter.unusedSimpArgs false
set_option maxHeartbeats 8000000
set_option maxRecDepth 100000
mutual
def spec_l11Access.j0 : Nat → List Int → List Int → Bool → Int → Int → List Int → Option (Bool)
 | 0, _, _, _, _, _, _ => none
 | k + 1, x, y, u, l, a, q => if u = true then (some false) else (spec_l11Access.l0 k x y a a 0 l a q)
def spec_l11Access.l0 : Nat → List Int → List Int → Int → Int → Int → Int → Int → List Int → Option (Bool)
 | 0, _, _, _, _, _, _, _, _ => none
 | k + 1, x, y, z, A, u, l, q, a => if u < (x.length : Int) then (if 0 ≤ u then (if u < (a.length : Int) then (if (rd x u) = 1 then (spec_l11Access.j2 k x y z A u (rd a u) ((rd a u) == 0) l q a) else (spec_l11Access.j2 k x y z A u (rd a u) false l q a)) else (none)) else (none)) else (if z ≥ 0 then (if 0 ≤ l then (if l < (y.length : Int) then (some (decide (A < (rd y l)))) else (none)) else (none)) else (some false))
def spec_l11Access.j2 : Nat → List Int → List Int → Int → Int → Int → Int → Bool → Int → Int → List Int → Option (Bool)
 | 0, _, _, _, _, _, _, _, _, _, _ => none
 | k + 1, y, z, A, B, x, u, D, a, l, q => if D = true then (spec_l11Access.l0 k y z A B (wrap64 (x + 1)) a l q) else (if 0 ≤ x then (if x < (y.length : Int) then (if (rd y x) = 1 then (spec_l11Access.j3 k y z A B x u true a l q) else (if u < (-4096) then (spec_l11Access.j3 k y z A B x u true a l q) else (spec_l11Access.j3 k y z A B x u (decide (u > 4096)) a l q))) else (none)) else (none))
def spec_l11Access.j3 : Nat → List Int → List Int → Int → Int → Int → Int → Bool → Int → Int → List Int → Option (Bool)
 | 0, _, _, _, _, _, _, _, _, _, _ => none
 | k + 1, x, z, A, B, u, y, D, a, l, q => if D = true then (some false) else (if y < 0 then (if 0 ≤ u then (if u < (x.length : Int) then (spec_l11Access.l0 k x z (wrap64 (A + (wrap64 (y * (wrap64 ((rd x u) - 1)))))) B (wrap64 (u + 1)) a l q) else (none)) else (none)) else (if 0 ≤ u then (if u < (x.length : Int) then (spec_l11Access.l0 k x z A (wrap64 (B + (wrap64 (y * (wrap64 ((rd x u) - 1)))))) (wrap64 (u + 1)) a l q) else (none)) else (none)))
end
def spec_l11Access.f (k : Nat) (a : Int) (l : Int) (q : List Int) (x : List Int) (u : List Int) : Option (Bool) := if a < 0 then (spec_l11Access.j0 k x u true a l q) else (if a ≥ (u.length : Int) then (spec_l11Access.j0 k x u true a l q) else (if (q.length : Int) = (x.length : Int) then (if l < 0 then (spec_l11Access.j0 k x u true a l q) else (if 0 ≤ a then (if a < (u.length : Int) then (spec_l11Access.j0 k x u (decide (l ≥ (rd u a))) a l q) else (none)) else (none))) else (spec_l11Access.j0 k x u true a l q)))
theorem spec_l11Access.calls (k) (l) (x) (J0) (L) (u : List Int) (A1) (c1) (z : List Int) (A2) (c2) (I : List Int) (r : Bool) (w) (f3 : Kd.C (Kd.int .i64) w J0 u.length u) (g3 : u.length ≤ L) (a4 : Kd.C (Kd.int .i64) w A1 z.length z) (b4 : z.length ≤ c1) (c4 : Kd.C (Kd.int .i64) w A2 I.length I) (d4 : I.length ≤ c2) (h : spec_l11Access.f k l x u z I = some r) :
 Calls Try.prog 62 #[.agg #[.int .i64 l, .int .i64 x, .slice J0 u.length L], .slice A1 z.length c1, .slice A2 I.length c2] w fun e w' => e = .returned (.bool r) ∧ Below w.heap.size w w' := by
 have T4 := Try.underlying76
 have S3 := zK f3
 have E4 := zK g3
 clear f3 g3
 have M1 := zK a4
 have U4 := zK b4
 clear a4 b4
 have e4 := zK c4
 have V4 := zK d4
 clear c4 d4
 have HB := zK (Below.refl w.heap.size w)
 have H : (if l < 0 then (spec_l11Access.j0 k z I true l x u) else (if l ≥ (I.length : Int) then (spec_l11Access.j0 k z I true l x u) else (if (u.length : Int) = (z.length : Int) then (if x < 0 then (spec_l11Access.j0 k z I true l x u) else (if 0 ≤ l then (if l < (I.length : Int) then (spec_l11Access.j0 k z I (decide (x ≥ (rd I l))) l x u) else (none)) else (none))) else (spec_l11Access.j0 k z I true l x u)))) = some r := h
 clear h
 have M3 := zK H
 clear H
 go_enter Try.func62, Try.ntmps62
 go_upto_region 1 with (first | ((with_reducible refine gd 3 rfl ?_); (try (refine gate_guard (by rfl) ?_; dsimp only)); refine zJ 3 #[.int .i64 l, .int .i64 x, .slice J0 u.length L] 76 ?_; intro e0 hg w5 hbox hb; have F2 := z8 hb; have G2 := zK (hbox); have I2 := z9 hg; have J2 := z9 hg; revert F2 G2 I2 J2; clear HB; intro HB q i3 l3; clear hb hbox hg))
 repeat (go_quiet (first | ((with_reducible refine gd 3 rfl ?_); (try (refine gate_guard (by rfl) ?_; dsimp only)); refine zJ 3 #[.int .i64 l, .int .i64 x, .slice J0 u.length L] 76 ?_; intro e0 hg w5 hbox hb; have F2 := z8 hb; have G2 := zK (hbox); have I2 := z9 hg; have J2 := z9 hg; revert F2 G2 I2 J2; clear HB; intro HB q i3 l3; clear hb hbox hg)); go_upto_region 1 with (first | ((with_reducible refine gd 3 rfl ?_); (try (refine gate_guard (by rfl) ?_; dsimp only)); refine zJ 3 #[.int .i64 l, .int .i64 x, .slice J0 u.length L] 76 ?_; intro e0 hg w5 hbox hb; have F2 := z8 hb; have G2 := zK (hbox); have I2 := z9 hg; have J2 := z9 hg; revert F2 G2 I2 J2; clear HB; intro HB q i3 l3; clear hb hbox hg)))
 (try simp only [Act.put, zq1, zq2, zq3])
 go_cut [43] (fun v43 wc => ∃ (kq : Nat) (I1 : Bool), v43 = .bool I1 ∧ Aside0 (spec_l11Access.j0 kq z I I1 l x u = some r) ∧ Aside0 (kq ≤ k) ∧ Aside0 (wc.heap[e0]? = some (.cells #[.int .i64 l, .int .i64 x, (.slice J0 u.length L)] 76 (0, 0))) ∧ Aside0 (Below w.heap.size w wc))
 case first =>
  have H := M3.out
  clear M3
  by_cases c6 : l < 0
  · rw [if_pos c6] at H
    have M := z1 c6
    clear c6
    (first | rw [M] | (simp only [i64_w, i32_w]; rw [M]) | skip)
    have H' := zK H
    clear H
    obtain ⟨N0, O0, R0, S0, T0, U0⟩ := zc3 q
    go_wp2
    repeat (go_quiet (fail); try go_wp2)
    go_meet
    case rel => exact ⟨_, (true), zR, H', ⟨by first | omega | exact Nat.le_refl _⟩, ⟨zM q⟩, ⟨zB⟩⟩
  rw [if_neg c6] at H
  have M := z2 c6
  clear c6
  (first | rw [M] | (simp only [i64_w, i32_w]; rw [M]) | skip)
  by_cases c8 : l ≥ (I.length : Int)
  · rw [if_pos c8] at H
    have N1 := z1 c8
    clear c8
    have H' := zK H
    clear H
    obtain ⟨V0, X0, a1, b1, d1, e1⟩ := zc3 q
    go_wp2
    repeat (go_quiet (fail); try go_wp2)
    go_meet
    case rel => exact ⟨_, (true), zR, H', ⟨by first | omega | exact Nat.le_refl _⟩, ⟨zM q⟩, ⟨zB⟩⟩
  rw [if_neg c8] at H
  have N1 := z2 c8
  clear c8
  by_cases J : (u.length : Int) = (z.length : Int)
  rotate_left
  · rw [if_neg J] at H
    have f1 := beq_eq_false_iff_ne.mpr J
    have g1 := bne_iff_ne.mpr J
    have i1 : (u.length == z.length) = false := by first | simpa using J | (simp at J ⊢; omega)
    have H' := zK H
    clear H
    obtain ⟨f0, g0, i0, m0, n0, o0⟩ := zc3 q
    go_wp2
    repeat (go_quiet (fail); try go_wp2)
    go_meet
    case rel => exact ⟨_, (true), zR, H', ⟨by first | omega | exact Nat.le_refl _⟩, ⟨zM q⟩, ⟨zB⟩⟩
  rw [if_pos J] at H
  have f1 := beq_iff_eq.mpr J
  have g1 := bne_eq_false_iff_eq.mpr J
  have i1 : (u.length == z.length) = true := by first | simpa using J | (simp at J ⊢; omega)
  clear J
  by_cases I0 : x < 0
  · rw [if_pos I0] at H
    have j1 := z1 I0
    clear I0
    have H' := zK H
    clear H
    obtain ⟨p0, q0, s0, t0, x0, y0⟩ := zc3 q
    go_wp2
    repeat (go_quiet (fail); try go_wp2)
    go_meet
    case rel => exact ⟨_, (true), zR, H', ⟨by first | omega | exact Nat.le_refl _⟩, ⟨zM q⟩, ⟨zB⟩⟩
  rw [if_neg I0] at H
  have j1 := z2 I0
  clear I0
  by_cases D1 : 0 ≤ l
  rotate_left
  · rw [if_neg D1] at H
    exact absurd H (by simp)
  rw [if_pos D1] at H
  have J1 := z1 D1
  clear D1
  by_cases E1 : l < (I.length : Int)
  rotate_left
  · rw [if_neg E1] at H
    exact absurd H (by simp)
  rw [if_pos E1] at H
  have L1 := z1 E1
  clear E1
  have H' := zK H
  clear H
  obtain ⟨A0, B0, C0, D0, E0, F0⟩ := zc3 q
  have L0 : 0 ≤ (l : Int) := z3
  have M0 : l < (I.length : Int) := z3
  obtain ⟨F4, j4, E⟩ := Kd.at_int e4.out l L0 M0
  cases j4
  (try replace E := zX HB E)
  replace L0 := eq_true L0
  replace M0 := eq_true M0
  go_wp2
  repeat (go_quiet (fail); try go_wp2)
  go_meet
  case rel => exact ⟨_, (decide (x ≥ (rd I l))), zR, H', ⟨by first | omega | exact Nat.le_refl _⟩, ⟨zM q⟩, ⟨zB⟩⟩
 case rest =>
  clear M3
  try clear c1
  try clear p1
  try clear q1
  try clear N3
  try clear c2
  try clear p2
  try clear c6
  try clear M
  try clear c8
  try clear N1
  try clear J
  try clear f1
  try clear g1
  try clear i1
  try clear I0
  try clear j1
  try clear D1
  try clear J1
  try clear a2
  try clear b2
  try clear O2
  try clear E1
  try clear L1
  try clear p0 q0 s0 t0 x0 y0
  try clear A0 B0 C0 D0 E0 F0
  try clear f0 g0 i0 m0 n0 o0
  try clear N0 O0 R0 S0 T0 U0
  try clear V0 X0 a1 b1 d1 e1
  try clear E
  try clear L0
  try clear M0
  obtain ⟨kq, I1, rfl, HA, b0, q, HB⟩ := hcut
  cases kq with
  | zero => exact absurd HA.out (by simp [spec_l11Access.j0])
  | succ f4 =>
   have H := HA.out
   clear HA
   simp only [spec_l11Access.j0] at H
   by_cases O1 : I1 = true
   · subst O1
     rw [if_pos rfl] at H
     obtain rfl := z5 H
     go_wp2
     repeat (go_quiet (fail); try go_wp2)
     go_ret
     exact ⟨zE, zB⟩
   replace O1 := Bool.eq_false_iff.mpr O1
   subst O1
   rw [if_neg (show ¬ (false = true) by decide)] at H
   have H' := zK H
   clear H
   obtain ⟨s1, t1, x1, y1, B1, C1⟩ := zc3 q
   go_wp2
   repeat (go_quiet (fail); try go_wp2)
   go_loopg [7, 8, 9] f4 (fun kq v7 v8 v9 w' => ∃ (O : Int) (c0 : Int) (a : Int), v7 = .int .i64 O ∧ v8 = .int .i64 c0 ∧ v9 = .int .i64 a ∧ Aside0 (spec_l11Access.l0 kq z I O c0 a l x u = some r) ∧ Aside0 (kq ≤ f4) ∧ Aside0 (w'.heap[e0]? = some (.cells #[.int .i64 l, .int .i64 x, (.slice J0 u.length L)] 76 (0, 0))) ∧ Aside0 (Below w.heap.size w w'))
   case atStart => exact ⟨(x), (x), (0), zR, zR, zR, H', ⟨Nat.le_refl _⟩, ⟨zM q⟩, ⟨zB⟩⟩
   clear H'
   try clear c1
   try clear p1
   try clear q1
   try clear N3
   try clear c2
   try clear p2
   try clear c6
   try clear M
   try clear c8
   try clear N1
   try clear J
   try clear f1
   try clear g1
   try clear i1
   try clear I0
   try clear j1
   try clear D1
   try clear J1
   try clear a2
   try clear b2
   try clear O2
   try clear E1
   try clear L1
   try clear O1
   try clear p0 q0 s0 t0 x0 y0
   try clear A0 B0 C0 D0 E0 F0
   try clear f0 g0 i0 m0 n0 o0
   try clear s1 t1 x1 y1 B1 C1
   try clear N0 O0 R0 S0 T0 U0
   try clear V0 X0 a1 b1 d1 e1
   try clear E
   try clear p1
   try clear a2
   try clear L0
   try clear p2
   try clear q1
   try clear b2
   try clear M0
   obtain ⟨O, c0, a, rfl, rfl, rfl, HA, d0, q, HB⟩ := hrel
   rcases gk with _ | k2
   · exact absurd HA.out (by simp [spec_l11Access.l0])
   have H := HA.out
   clear HA
   simp only [spec_l11Access.l0] at H
   by_cases F1 : a < (z.length : Int)
   rotate_left
   · rw [if_neg F1] at H
     have B2 := z2 F1
     clear F1
     by_cases d2 : O ≥ 0
     rotate_left
     · rw [if_neg d2] at H
       have T3 := z2 d2
       clear d2
       obtain rfl := z5 H
       go_wp2
       repeat (go_quiet (fail); try go_wp2)
       go_ret
       exact ⟨zE, zB⟩
     rw [if_pos d2] at H
     have T3 := z1 d2
     clear d2
     by_cases m3 : 0 ≤ l
     rotate_left
     · rw [if_neg m3] at H
       exact absurd H (by simp)
     rw [if_pos m3] at H
     have G4 := z1 m3
     clear m3
     by_cases n3 : l < (I.length : Int)
     rotate_left
     · rw [if_neg n3] at H
       exact absurd H (by simp)
     rw [if_pos n3] at H
     have I4 := z1 n3
     clear n3
     obtain rfl := z5 H
     obtain ⟨q4, s4, t4, x4, y4, A4⟩ := zc3 q
     have R2 : 0 ≤ (l : Int) := z3
     have T2 : l < (I.length : Int) := z3
     obtain ⟨J4, l4, e2⟩ := Kd.at_int e4.out l R2 T2
     cases l4
     (try replace e2 := zX HB e2)
     replace R2 := eq_true R2
     replace T2 := eq_true T2
     go_wp2
     repeat (go_quiet (fail); try go_wp2)
     go_ret
     exact ⟨zE, zB⟩
   rw [if_pos F1] at H
   have B2 := z1 F1
   clear F1
   by_cases f2 : 0 ≤ a
   rotate_left
   · rw [if_neg f2] at H
     exact absurd H (by simp)
   rw [if_pos f2] at H
   have o3 := z1 f2
   clear f2
   by_cases g2 : a < (u.length : Int)
   rotate_left
   · rw [if_neg g2] at H
     exact absurd H (by simp)
   rw [if_pos g2] at H
   have p3 := z1 g2
   clear g2
   have U2 := zK H
   clear H
   obtain ⟨i2, m2, n2, o2, q2, s2⟩ := zc3 q
   have R1 : 0 ≤ (a : Int) := z3
   have S1 : a < (u.length : Int) := z3
   obtain ⟨q3, m4, G0⟩ := Kd.at_int S3.out a R1 S1
   cases m4
   (try replace G0 := zX HB G0)
   replace R1 := eq_true R1
   replace S1 := eq_true S1
   go_upto_region 9 with (fail)
   repeat (go_quiet (fail); go_upto_region 9 with (fail))
   go_cut [67] (fun v67 wc => ∃ (kq : Nat) (m1 : Bool), v67 = .bool m1 ∧ Aside0 (spec_l11Access.j2 kq z I O c0 a (rd u a) m1 l x u = some r) ∧ Aside0 (kq ≤ k2) ∧ Aside0 (wc.heap[e0]? = some (.cells #[.int .i64 l, .int .i64 x, (.slice (some q3) u.length L)] 76 (0, 0))) ∧ Aside0 (Below w.heap.size w wc))
   case first =>
    have H := U2.out
    clear U2
    by_cases n1 : (rd z a) = 1
    rotate_left
    · rw [if_neg n1] at H
      have T := beq_eq_false_iff_ne.mpr n1
      have C2 := bne_iff_ne.mpr n1
      (first | rw [T] | (simp only [i64_w, i32_w]; rw [T]) | skip)
      have H' := zK H
      clear H
      have U : 0 ≤ (a : Int) := z3
      have X : a < (z.length : Int) := z3
      obtain ⟨U3, V2, A⟩ := Kd.at_int M1.out a U X
      cases V2
      (try replace A := zX HB A)
      replace U := eq_true U
      replace X := eq_true X
      go_wp2
      repeat (go_quiet (fail); try go_wp2)
      go_meet
      case rel => exact ⟨_, (false), zR, H', ⟨by have := b0.out; have := d0.out; first | omega | exact Nat.le_refl _⟩, ⟨zM q⟩, ⟨zB⟩⟩
    rw [if_pos n1] at H
    have T := beq_iff_eq.mpr n1
    have C2 := bne_eq_false_iff_eq.mpr n1
    clear n1
    (first | rw [T] | (simp only [i64_w, i32_w]; rw [T]) | skip)
    have H' := zK H
    clear H
    have U : 0 ≤ (a : Int) := z3
    have X : a < (z.length : Int) := z3
    obtain ⟨U3, V2, A⟩ := Kd.at_int M1.out a U X
    cases V2
    (try replace A := zX HB A)
    replace U := eq_true U
    replace X := eq_true X
    go_wp2
    repeat (go_quiet (fail); try go_wp2)
    go_meet
    case rel => exact ⟨_, (((rd u a) == 0)), zR, H', ⟨by have := b0.out; have := d0.out; first | omega | exact Nat.le_refl _⟩, ⟨zM q⟩, ⟨zB⟩⟩
   case rest =>
    clear U2
    try clear c1
    try clear p1
    try clear q1
    try clear N3
    try clear c2
    try clear p2
    try clear c6
    try clear M
    try clear c8
    try clear N1
    try clear J
    try clear f1
    try clear g1
    try clear i1
    try clear I0
    try clear j1
    try clear D1
    try clear J1
    try clear a2
    try clear b2
    try clear O2
    try clear E1
    try clear L1
    try clear g4
    try clear i4
    try clear n4
    try clear O1
    try clear F1
    try clear B2
    try clear f2
    try clear o3
    try clear g2
    try clear p3
    try clear n1
    try clear T
    try clear C2
    try clear p0 q0 s0 t0 x0 y0
    try clear A0 B0 C0 D0 E0 F0
    try clear f0 g0 i0 m0 n0 o0
    try clear s1 t1 x1 y1 B1 C1
    try clear i2 m2 n2 o2 q2 s2
    try clear N0 O0 R0 S0 T0 U0
    try clear V0 X0 a1 b1 d1 e1
    try clear E
    try clear G0
    try clear A
    try clear p1
    try clear a2
    try clear L0
    try clear R1
    try clear U
    try clear p2
    try clear q1
    try clear b2
    try clear M0
    try clear S1
    try clear X
    obtain ⟨kq, m1, rfl, HA, a0, q, HB⟩ := hcut
    cases kq with
    | zero => exact absurd HA.out (by simp [spec_l11Access.j2])
    | succ O3 =>
     have H := HA.out
     clear HA
     simp only [spec_l11Access.j2] at H
     by_cases L2 : m1 = true
     · subst L2
       rw [if_pos rfl] at H
       have H' := zK H
       clear H
       go_wp2
       repeat (go_quiet (fail); try go_wp2)
       go_roundg O3
       case measure => have := b0.out; have := d0.out; have := a0.out; omega
       case rel => exact ⟨(O), (c0), (wrap64 (a + 1)), zR, zR, zR, H', ⟨by have := b0.out; have := d0.out; have := a0.out; omega⟩, ⟨zM q⟩, ⟨zB⟩⟩
     replace L2 := Bool.eq_false_iff.mpr L2
     subst L2
     rw [if_neg (show ¬ (false = true) by decide)] at H
     have X2 := zK H
     clear H
     go_upto_region 10 with (fail)
     repeat (go_quiet (fail); go_upto_region 10 with (fail))
     go_cut [80] (fun v80 wc => ∃ (kq : Nat) (o1 : Bool), v80 = .bool o1 ∧ Aside0 (spec_l11Access.j3 kq z I O c0 a (rd u a) o1 l x u = some r) ∧ Aside0 (kq ≤ O3) ∧ Aside0 (wc.heap[e0]? = some (.cells #[.int .i64 l, .int .i64 x, (.slice (some q3) u.length L)] 76 (0, 0))) ∧ Aside0 (Below w.heap.size w wc))
     case first =>
      have H := X2.out
      clear X2
      by_cases M2 : 0 ≤ a
      rotate_left
      · rw [if_neg M2] at H
        exact absurd H (by simp)
      rw [if_pos M2] at H
      have D2 := z1 M2
      clear M2
      (first | rw [D2] | (simp only [i64_w, i32_w]; rw [D2]) | skip)
      by_cases N2 : a < (z.length : Int)
      rotate_left
      · rw [if_neg N2] at H
        exact absurd H (by simp)
      rw [if_pos N2] at H
      have V3 := z1 N2
      clear N2
      by_cases G1 : (rd z a) = 1
      · rw [if_pos G1] at H
        have s3 := beq_iff_eq.mpr G1
        have t3 := bne_eq_false_iff_eq.mpr G1
        clear G1
        have H' := zK H
        clear H
        have B : 0 ≤ (a : Int) := z3
        have D : a < (z.length : Int) := z3
        obtain ⟨x3, T1, y⟩ := Kd.at_int M1.out a B D
        cases T1
        (try replace y := zX HB y)
        replace B := eq_true B
        replace D := eq_true D
        go_wp2
        repeat (go_quiet (fail); try go_wp2)
        go_meet
        case rel => exact ⟨_, (true), zR, H', ⟨by have := b0.out; have := d0.out; have := a0.out; first | omega | exact Nat.le_refl _⟩, ⟨zM q⟩, ⟨zB⟩⟩
      rw [if_neg G1] at H
      have s3 := beq_eq_false_iff_ne.mpr G1
      have t3 := bne_iff_ne.mpr G1
      by_cases U1 : (rd u a) < (-4096)
      · rw [if_pos U1] at H
        have y3 := z1 U1
        clear U1
        have H' := zK H
        clear H
        have B : 0 ≤ (a : Int) := z3
        have D : a < (z.length : Int) := z3
        obtain ⟨x3, T1, y⟩ := Kd.at_int M1.out a B D
        cases T1
        (try replace y := zX HB y)
        replace B := eq_true B
        replace D := eq_true D
        go_wp2
        repeat (go_quiet (fail); try go_wp2)
        go_meet
        case rel => exact ⟨_, (true), zR, H', ⟨by have := b0.out; have := d0.out; have := a0.out; first | omega | exact Nat.le_refl _⟩, ⟨zM q⟩, ⟨zB⟩⟩
      rw [if_neg U1] at H
      have y3 := z2 U1
      clear U1
      have H' := zK H
      clear H
      have B : 0 ≤ (a : Int) := z3
      have D : a < (z.length : Int) := z3
      obtain ⟨x3, T1, y⟩ := Kd.at_int M1.out a B D
      cases T1
      (try replace y := zX HB y)
      replace B := eq_true B
      replace D := eq_true D
      go_wp2
      repeat (go_quiet (fail); try go_wp2)
      go_meet
      case rel => exact ⟨_, (decide ((rd u a) > 4096)), zR, H', ⟨by have := b0.out; have := d0.out; have := a0.out; first | omega | exact Nat.le_refl _⟩, ⟨zM q⟩, ⟨zB⟩⟩
     case rest =>
      clear X2
      try clear c1
      try clear p1
      try clear q1
      try clear N3
      try clear c2
      try clear p2
      try clear c3
      try clear c6
      try clear M
      try clear p6
      try clear c8
      try clear N1
      try clear J
      try clear f1
      try clear g1
      try clear i1
      try clear I0
      try clear j1
      try clear D1
      try clear J1
      try clear a2
      try clear b2
      try clear O2
      try clear E1
      try clear L1
      try clear g4
      try clear i4
      try clear n4
      try clear O1
      try clear F1
      try clear B2
      try clear f2
      try clear o3
      try clear g2
      try clear p3
      try clear n1
      try clear T
      try clear C2
      try clear L2
      try clear M2
      try clear D2
      try clear N2
      try clear V3
      try clear G1
      try clear s3
      try clear t3
      try clear U1
      try clear y3
      try clear p0 q0 s0 t0 x0 y0
      try clear A0 B0 C0 D0 E0 F0
      try clear f0 g0 i0 m0 n0 o0
      try clear s1 t1 x1 y1 B1 C1
      try clear i2 m2 n2 o2 q2 s2
      try clear N0 O0 R0 S0 T0 U0
      try clear V0 X0 a1 b1 d1 e1
      try clear E
      try clear G0
      try clear A
      try clear y
      try clear p1
      try clear a2
      try clear L0
      try clear R1
      try clear g4
      try clear U
      try clear B
      try clear p2
      try clear q1
      try clear b2
      try clear M0
      try clear S1
      try clear i4
      try clear X
      try clear D
      obtain ⟨kq, o1, rfl, HA, E2, q, HB⟩ := hcut
      cases kq with
      | zero => exact absurd HA.out (by simp [spec_l11Access.j3])
      | succ R3 =>
       have H := HA.out
       clear HA
       simp only [spec_l11Access.j3] at H
       by_cases A3 : o1 = true
       · subst A3
         rw [if_pos rfl] at H
         obtain rfl := z5 H
         go_wp2
         repeat (go_quiet (fail); try go_wp2)
         go_ret
         exact ⟨zE, zB⟩
       replace A3 := Bool.eq_false_iff.mpr A3
       subst A3
       rw [if_neg (show ¬ (false = true) by decide)] at H
       by_cases t2 : (rd u a) < 0
       · rw [if_pos t2] at H
         have X3 := z1 t2
         clear t2
         by_cases B3 : 0 ≤ a
         rotate_left
         · rw [if_neg B3] at H
           exact absurd H (by simp)
         rw [if_pos B3] at H
         have L4 := z1 B3
         clear B3
         by_cases C3 : a < (z.length : Int)
         rotate_left
         · rw [if_neg C3] at H
           exact absurd H (by simp)
         rw [if_pos C3] at H
         have M4 := z1 C3
         clear C3
         have H' := zK H
         clear H
         have a3 : 0 ≤ (a : Int) := z3
         have b3 : a < (z.length : Int) := z3
         obtain ⟨N4, o4, x2⟩ := Kd.at_int M1.out a a3 b3
         cases o4
         (try replace x2 := zX HB x2)
         replace a3 := eq_true a3
         replace b3 := eq_true b3
         go_wp2
         repeat (go_quiet (fail); try go_wp2)
         go_roundg R3
         case measure => have := b0.out; have := d0.out; have := a0.out; have := E2.out; omega
         case rel => exact ⟨(wrap64 (O + (wrap64 ((rd u a) * (wrap64 ((rd z a) - 1)))))), (c0), (wrap64 (a + 1)), zR, zR, zR, H', ⟨by have := b0.out; have := d0.out; have := a0.out; have := E2.out; omega⟩, ⟨zM q⟩, ⟨zB⟩⟩
       rw [if_neg t2] at H
       have X3 := z2 t2
       clear t2
       by_cases D3 : 0 ≤ a
       rotate_left
       · rw [if_neg D3] at H
         exact absurd H (by simp)
       rw [if_pos D3] at H
       have O4 := z1 D3
       clear D3
       by_cases E3 : a < (z.length : Int)
       rotate_left
       · rw [if_neg E3] at H
         exact absurd H (by simp)
       rw [if_pos E3] at H
       have R4 := z1 E3
       clear E3
       have H' := zK H
       clear H
       have d3 : 0 ≤ (a : Int) := z3
       have e3 : a < (z.length : Int) := z3
       obtain ⟨S4, p4, y2⟩ := Kd.at_int M1.out a d3 e3
       cases p4
       (try replace y2 := zX HB y2)
       replace d3 := eq_true d3
       replace e3 := eq_true e3
       go_wp2
       repeat (go_quiet (fail); try go_wp2)
       go_roundg R3
       case measure => have := b0.out; have := d0.out; have := a0.out; have := E2.out; omega
       case rel => exact ⟨(O), (wrap64 (c0 + (wrap64 ((rd u a) * (wrap64 ((rd z a) - 1)))))), (wrap64 (a + 1)), zR, zR, zR, H', ⟨by have := b0.out; have := d0.out; have := a0.out; have := E2.out; omega⟩, ⟨zM q⟩, ⟨zB⟩⟩
end Go.Proofs.Ytmcboiffbcnalaa.PFnExactPlanOk
