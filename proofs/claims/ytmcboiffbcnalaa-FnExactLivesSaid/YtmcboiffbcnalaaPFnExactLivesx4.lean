-- Printed out of the translation by this session's own turned copy of a printer; Lean checks it.
import Derived.Test.YtmcboiffbcnalaaPFnExactLivesx0
namespace Go.Proofs.Ytmcboiffbcnalaa.PFnExactLives
open Go.RowKit Go.Proofs.YtmcboiffbcnalaaW.PrintWords Go.Proofs.YtmcboiffbcnalaaW.PrintLast Go.Proofs.YtmcboiffbcnalaaW.PrintMore
attribute [local go_sem] max2_int min2_int max_two min_two max_three min_three max_four min_four
set_option linter.unusedVariables false
set_option linter.unusedSimpArgs false
set_option maxHeartbeats 8000000
set_option maxRecDepth 100000
mutual
def spec_l11Access.j0 : Nat → List Int → List Int → Bool → Int → Int → List Int → Option (Bool)
 | 0, _, _, _, _, _, _ => none
 | k + 1, z, A, y, q, l, u => if y = true then (some false) else (spec_l11Access.l0 k z A l l 0 q l u)
def spec_l11Access.l0 : Nat → List Int → List Int → Int → Int → Int → Int → Int → List Int → Option (Bool)
 | 0, _, _, _, _, _, _, _, _ => none
 | k + 1, z, A, B, E, y, q, u, l => if y < (z.length : Int) then (if 0 ≤ y then (if y < (l.length : Int) then (if (rd z y) = 1 then (spec_l11Access.j2 k z A B E y (rd l y) ((rd l y) == 0) q u l) else (spec_l11Access.j2 k z A B E y (rd l y) false q u l)) else (none)) else (none)) else (if B ≥ 0 then (if 0 ≤ q then (if q < (A.length : Int) then (some (decide (E < (rd A q)))) else (none)) else (none)) else (some false))
def spec_l11Access.j2 : Nat → List Int → List Int → Int → Int → Int → Int → Bool → Int → Int → List Int → Option (Bool)
 | 0, _, _, _, _, _, _, _, _, _, _ => none
 | k + 1, A, B, E, I, z, y, J, l, q, u => if J = true then (spec_l11Access.l0 k A B E I (wrap64 (z + 1)) l q u) else (if 0 ≤ z then (if z < (A.length : Int) then (if (rd A z) = 1 then (spec_l11Access.j3 k A B E I z y true l q u) else (if y < (-4096) then (spec_l11Access.j3 k A B E I z y true l q u) else (spec_l11Access.j3 k A B E I z y (decide (y > 4096)) l q u))) else (none)) else (none))
def spec_l11Access.j3 : Nat → List Int → List Int → Int → Int → Int → Int → Bool → Int → Int → List Int → Option (Bool)
 | 0, _, _, _, _, _, _, _, _, _, _ => none
 | k + 1, z, B, E, I, y, A, J, l, q, u => if J = true then (some false) else (if A < 0 then (if 0 ≤ y then (if y < (z.length : Int) then (spec_l11Access.l0 k z B (wrap64 (E + (wrap64 (A * (wrap64 ((rd z y) - 1)))))) I (wrap64 (y + 1)) l q u) else (none)) else (none)) else (if 0 ≤ y then (if y < (z.length : Int) then (spec_l11Access.l0 k z B E (wrap64 (I + (wrap64 (A * (wrap64 ((rd z y) - 1)))))) (wrap64 (y + 1)) l q u) else (none)) else (none)))
end
def spec_l11Access.f (k : Nat) (l : Int) (q : Int) (u : List Int) (z : List Int) (y : List Int) : Option (Bool) := if l < 0 then (spec_l11Access.j0 k z y true l q u) else (if l ≥ (y.length : Int) then (spec_l11Access.j0 k z y true l q u) else (if (u.length : Int) = (z.length : Int) then (if q < 0 then (spec_l11Access.j0 k z y true l q u) else (if 0 ≤ l then (if l < (y.length : Int) then (spec_l11Access.j0 k z y (decide (q ≥ (rd y l))) l q u) else (none)) else (none))) else (spec_l11Access.j0 k z y true l q u)))
theorem spec_l11Access.calls (k) (q) (z) (N0) (T) (y : List Int) (A1) (c1) (B : List Int) (A2) (c2) (M : List Int) (r : Bool) (w) (l3 : Kd.C (Kd.int .i64) w N0 y.length y) (m3 : y.length ≤ T) (d4 : Kd.C (Kd.int .i64) w A1 B.length B) (e4 : B.length ≤ c1) (f4 : Kd.C (Kd.int .i64) w A2 M.length M) (g4 : M.length ≤ c2) (h : spec_l11Access.f k q z y B M = some r) :
 Calls Try.prog 62 #[.agg #[.int .i64 q, .int .i64 z, .slice N0 y.length T], .slice A1 B.length c1, .slice A2 M.length c2] w fun e w' => e = .returned (.bool r) ∧ Below w.heap.size w w' := by
 have T4 := Try.underlying76
 have V3 := zK l3
 have E4 := zK m3
 clear l3 m3
 have R1 := zK d4
 have U4 := zK e4
 clear d4 e4
 have i4 := zK f4
 have V4 := zK g4
 clear f4 g4
 have HB := zK (Below.refl w.heap.size w)
 have H : (if q < 0 then (spec_l11Access.j0 k B M true q z y) else (if q ≥ (M.length : Int) then (spec_l11Access.j0 k B M true q z y) else (if (y.length : Int) = (B.length : Int) then (if z < 0 then (spec_l11Access.j0 k B M true q z y) else (if 0 ≤ q then (if q < (M.length : Int) then (spec_l11Access.j0 k B M (decide (z ≥ (rd M q))) q z y) else (none)) else (none))) else (spec_l11Access.j0 k B M true q z y)))) = some r := h
 clear h
 have R3 := zK H
 clear H
 go_enter Try.func62, Try.ntmps62
 go_upto_region 1 with (first | ((with_reducible refine gd 3 rfl ?_); (try (refine gate_guard (by rfl) ?_; dsimp only)); refine zJ 3 #[.int .i64 q, .int .i64 z, .slice N0 y.length T] 76 ?_; intro i0 hg w5 hbox hb; have J2 := z8 hb; have L2 := zK (hbox); have M2 := z9 hg; have N2 := z9 hg; revert J2 L2 M2 N2; clear HB; intro HB u n3 o3; clear hb hbox hg))
 repeat (go_quiet (first | ((with_reducible refine gd 3 rfl ?_); (try (refine gate_guard (by rfl) ?_; dsimp only)); refine zJ 3 #[.int .i64 q, .int .i64 z, .slice N0 y.length T] 76 ?_; intro i0 hg w5 hbox hb; have J2 := z8 hb; have L2 := zK (hbox); have M2 := z9 hg; have N2 := z9 hg; revert J2 L2 M2 N2; clear HB; intro HB u n3 o3; clear hb hbox hg)); go_upto_region 1 with (first | ((with_reducible refine gd 3 rfl ?_); (try (refine gate_guard (by rfl) ?_; dsimp only)); refine zJ 3 #[.int .i64 q, .int .i64 z, .slice N0 y.length T] 76 ?_; intro i0 hg w5 hbox hb; have J2 := z8 hb; have L2 := zK (hbox); have M2 := z9 hg; have N2 := z9 hg; revert J2 L2 M2 N2; clear HB; intro HB u n3 o3; clear hb hbox hg)))
 (try simp only [Act.put, zq1, zq2, zq3])
 go_cut [43] (fun v43 wc => ∃ (kq : Nat) (M1 : Bool), v43 = .bool M1 ∧ Aside0 (spec_l11Access.j0 kq B M M1 q z y = some r) ∧ Aside0 (kq ≤ k) ∧ Aside0 (wc.heap[i0]? = some (.cells #[.int .i64 q, .int .i64 z, (.slice N0 y.length T)] 76 (0, 0))) ∧ Aside0 (Below w.heap.size w wc))
 case first =>
  have H := R3.out
  clear R3
  by_cases c6 : q < 0
  · rw [if_pos c6] at H
    have U := z1 c6
    clear c6
    (first | rw [U] | (simp only [i64_w, i32_w]; rw [U]) | skip)
    have H' := zK H
    clear H
    obtain ⟨S0, T0, U0, V0, X0, a1⟩ := zc3 u
    go_wp2
    repeat (go_quiet (fail); try go_wp2)
    go_meet
    case rel => exact ⟨_, (true), zR, H', ⟨by first | omega | exact Nat.le_refl _⟩, ⟨zM u⟩, ⟨zB⟩⟩
  rw [if_neg c6] at H
  have U := z2 c6
  clear c6
  (first | rw [U] | (simp only [i64_w, i32_w]; rw [U]) | skip)
  by_cases c8 : q ≥ (M.length : Int)
  · rw [if_pos c8] at H
    have S1 := z1 c8
    clear c8
    have H' := zK H
    clear H
    obtain ⟨b1, d1, e1, f1, g1, i1⟩ := zc3 u
    go_wp2
    repeat (go_quiet (fail); try go_wp2)
    go_meet
    case rel => exact ⟨_, (true), zR, H', ⟨by first | omega | exact Nat.le_refl _⟩, ⟨zM u⟩, ⟨zB⟩⟩
  rw [if_neg c8] at H
  have S1 := z2 c8
  clear c8
  by_cases O : (y.length : Int) = (B.length : Int)
  rotate_left
  · rw [if_neg O] at H
    have j1 := beq_eq_false_iff_ne.mpr O
    have m1 := bne_iff_ne.mpr O
    have n1 : (y.length == B.length) = false := by first | simpa using O | (simp at O ⊢; omega)
    have H' := zK H
    clear H
    obtain ⟨m0, n0, o0, p0, q0, s0⟩ := zc3 u
    go_wp2
    repeat (go_quiet (fail); try go_wp2)
    go_meet
    case rel => exact ⟨_, (true), zR, H', ⟨by first | omega | exact Nat.le_refl _⟩, ⟨zM u⟩, ⟨zB⟩⟩
  rw [if_pos O] at H
  have j1 := beq_iff_eq.mpr O
  have m1 := bne_eq_false_iff_eq.mpr O
  have n1 : (y.length == B.length) = true := by first | simpa using O | (simp at O ⊢; omega)
  clear O
  by_cases M0 : z < 0
  · rw [if_pos M0] at H
    have o1 := z1 M0
    clear M0
    have H' := zK H
    clear H
    obtain ⟨t0, x0, y0, A0, B0, C0⟩ := zc3 u
    go_wp2
    repeat (go_quiet (fail); try go_wp2)
    go_meet
    case rel => exact ⟨_, (true), zR, H', ⟨by first | omega | exact Nat.le_refl _⟩, ⟨zM u⟩, ⟨zB⟩⟩
  rw [if_neg M0] at H
  have o1 := z2 M0
  clear M0
  by_cases G1 : 0 ≤ q
  rotate_left
  · rw [if_neg G1] at H
    exact absurd H (by simp)
  rw [if_pos G1] at H
  have N1 := z1 G1
  clear G1
  by_cases I1 : q < (M.length : Int)
  rotate_left
  · rw [if_neg I1] at H
    exact absurd H (by simp)
  rw [if_pos I1] at H
  have O1 := z1 I1
  clear I1
  have H' := zK H
  clear H
  obtain ⟨D0, E0, F0, G0, I0, J0⟩ := zc3 u
  have O0 : 0 ≤ (q : Int) := z3
  have R0 : q < (M.length : Int) := z3
  obtain ⟨F4, l4, L⟩ := Kd.at_int i4.out q O0 R0
  cases l4
  (try replace L := zX HB L)
  replace O0 := eq_true O0
  replace R0 := eq_true R0
  go_wp2
  repeat (go_quiet (fail); try go_wp2)
  go_meet
  case rel => exact ⟨_, (decide (z ≥ (rd M q))), zR, H', ⟨by first | omega | exact Nat.le_refl _⟩, ⟨zM u⟩, ⟨zB⟩⟩
 case rest =>
  clear R3
  try clear c1
  try clear p1
  try clear q1
  try clear S3
  try clear c2
  try clear p2
  try clear c6
  try clear U
  try clear c8
  try clear S1
  try clear O
  try clear j1
  try clear m1
  try clear n1
  try clear M0
  try clear o1
  try clear G1
  try clear N1
  try clear e2
  try clear f2
  try clear U2
  try clear I1
  try clear O1
  try clear t0 x0 y0 A0 B0 C0
  try clear D0 E0 F0 G0 I0 J0
  try clear m0 n0 o0 p0 q0 s0
  try clear S0 T0 U0 V0 X0 a1
  try clear b1 d1 e1 f1 g1 i1
  try clear L
  try clear O0
  try clear R0
  obtain ⟨kq, M1, rfl, HA, e0, u, HB⟩ := hcut
  cases kq with
  | zero => exact absurd HA.out (by simp [spec_l11Access.j0])
  | succ j4 =>
   have H := HA.out
   clear HA
   simp only [spec_l11Access.j0] at H
   by_cases T1 : M1 = true
   · subst T1
     rw [if_pos rfl] at H
     obtain rfl := z5 H
     go_wp2
     repeat (go_quiet (fail); try go_wp2)
     go_ret
     exact ⟨zE, zB⟩
   replace T1 := Bool.eq_false_iff.mpr T1
   subst T1
   rw [if_neg (show ¬ (false = true) by decide)] at H
   have H' := zK H
   clear H
   obtain ⟨y1, B1, C1, D1, E1, F1⟩ := zc3 u
   go_wp2
   repeat (go_quiet (fail); try go_wp2)
   go_loopg [7, 8, 9] j4 (fun kq v7 v8 v9 w' => ∃ (X : Int) (f0 : Int) (l : Int), v7 = .int .i64 X ∧ v8 = .int .i64 f0 ∧ v9 = .int .i64 l ∧ Aside0 (spec_l11Access.l0 kq B M X f0 l q z y = some r) ∧ Aside0 (kq ≤ j4) ∧ Aside0 (w'.heap[i0]? = some (.cells #[.int .i64 q, .int .i64 z, (.slice N0 y.length T)] 76 (0, 0))) ∧ Aside0 (Below w.heap.size w w'))
   case atStart => exact ⟨(z), (z), (0), zR, zR, zR, H', ⟨Nat.le_refl _⟩, ⟨zM u⟩, ⟨zB⟩⟩
   clear H'
   try clear c1
   try clear p1
   try clear q1
   try clear S3
   try clear c2
   try clear p2
   try clear c6
   try clear U
   try clear c8
   try clear S1
   try clear O
   try clear j1
   try clear m1
   try clear n1
   try clear M0
   try clear o1
   try clear G1
   try clear N1
   try clear e2
   try clear f2
   try clear U2
   try clear I1
   try clear O1
   try clear T1
   try clear t0 x0 y0 A0 B0 C0
   try clear D0 E0 F0 G0 I0 J0
   try clear m0 n0 o0 p0 q0 s0
   try clear y1 B1 C1 D1 E1 F1
   try clear S0 T0 U0 V0 X0 a1
   try clear b1 d1 e1 f1 g1 i1
   try clear L
   try clear p1
   try clear e2
   try clear O0
   try clear p2
   try clear q1
   try clear f2
   try clear R0
   obtain ⟨X, f0, l, rfl, rfl, rfl, HA, g0, u, HB⟩ := hrel
   rcases gk with _ | k2
   · exact absurd HA.out (by simp [spec_l11Access.l0])
   have H := HA.out
   clear HA
   simp only [spec_l11Access.l0] at H
   by_cases J1 : l < (B.length : Int)
   rotate_left
   · rw [if_neg J1] at H
     have E2 := z2 J1
     clear J1
     by_cases g2 : X ≥ 0
     rotate_left
     · rw [if_neg g2] at H
       have X3 := z2 g2
       clear g2
       obtain rfl := z5 H
       go_wp2
       repeat (go_quiet (fail); try go_wp2)
       go_ret
       exact ⟨zE, zB⟩
     rw [if_pos g2] at H
     have X3 := z1 g2
     clear g2
     by_cases p3 : 0 ≤ q
     rotate_left
     · rw [if_neg p3] at H
       exact absurd H (by simp)
     rw [if_pos p3] at H
     have G4 := z1 p3
     clear p3
     by_cases q3 : q < (M.length : Int)
     rotate_left
     · rw [if_neg q3] at H
       exact absurd H (by simp)
     rw [if_pos q3] at H
     have I4 := z1 q3
     clear q3
     obtain rfl := z5 H
     obtain ⟨q4, s4, t4, x4, y4, A4⟩ := zc3 u
     have V2 : 0 ≤ (q : Int) := z3
     have X2 : q < (M.length : Int) := z3
     obtain ⟨J4, m4, i2⟩ := Kd.at_int i4.out q V2 X2
     cases m4
     (try replace i2 := zX HB i2)
     replace V2 := eq_true V2
     replace X2 := eq_true X2
     go_wp2
     repeat (go_quiet (fail); try go_wp2)
     go_ret
     exact ⟨zE, zB⟩
   rw [if_pos J1] at H
   have E2 := z1 J1
   clear J1
   by_cases m2 : 0 ≤ l
   rotate_left
   · rw [if_neg m2] at H
     exact absurd H (by simp)
   rw [if_pos m2] at H
   have s3 := z1 m2
   clear m2
   by_cases n2 : l < (y.length : Int)
   rotate_left
   · rw [if_neg n2] at H
     exact absurd H (by simp)
   rw [if_pos n2] at H
   have t3 := z1 n2
   clear n2
   have a3 := zK H
   clear H
   obtain ⟨o2, q2, s2, t2, x2, y2⟩ := zc3 u
   have U1 : 0 ≤ (l : Int) := z3
   have V1 : l < (y.length : Int) := z3
   obtain ⟨x3, n4, L0⟩ := Kd.at_int V3.out l U1 V1
   cases n4
   (try replace L0 := zX HB L0)
   replace U1 := eq_true U1
   replace V1 := eq_true V1
   go_upto_region 9 with (fail)
   repeat (go_quiet (fail); go_upto_region 9 with (fail))
   go_cut [67] (fun v67 wc => ∃ (kq : Nat) (s1 : Bool), v67 = .bool s1 ∧ Aside0 (spec_l11Access.j2 kq B M X f0 l (rd y l) s1 q z y = some r) ∧ Aside0 (kq ≤ k2) ∧ Aside0 (wc.heap[i0]? = some (.cells #[.int .i64 q, .int .i64 z, (.slice (some x3) y.length T)] 76 (0, 0))) ∧ Aside0 (Below w.heap.size w wc))
   case first =>
    have H := a3.out
    clear a3
    by_cases t1 : (rd B l) = 1
    rotate_left
    · rw [if_neg t1] at H
      have a0 := beq_eq_false_iff_ne.mpr t1
      have F2 := bne_iff_ne.mpr t1
      (first | rw [a0] | (simp only [i64_w, i32_w]; rw [a0]) | skip)
      have H' := zK H
      clear H
      have b0 : 0 ≤ (l : Int) := z3
      have c0 : l < (B.length : Int) := z3
      obtain ⟨a4, b3, E⟩ := Kd.at_int R1.out l b0 c0
      cases b3
      (try replace E := zX HB E)
      replace b0 := eq_true b0
      replace c0 := eq_true c0
      go_wp2
      repeat (go_quiet (fail); try go_wp2)
      go_meet
      case rel => exact ⟨_, (false), zR, H', ⟨by have := e0.out; have := g0.out; first | omega | exact Nat.le_refl _⟩, ⟨zM u⟩, ⟨zB⟩⟩
    rw [if_pos t1] at H
    have a0 := beq_iff_eq.mpr t1
    have F2 := bne_eq_false_iff_eq.mpr t1
    clear t1
    (first | rw [a0] | (simp only [i64_w, i32_w]; rw [a0]) | skip)
    have H' := zK H
    clear H
    have b0 : 0 ≤ (l : Int) := z3
    have c0 : l < (B.length : Int) := z3
    obtain ⟨a4, b3, E⟩ := Kd.at_int R1.out l b0 c0
    cases b3
    (try replace E := zX HB E)
    replace b0 := eq_true b0
    replace c0 := eq_true c0
    go_wp2
    repeat (go_quiet (fail); try go_wp2)
    go_meet
    case rel => exact ⟨_, (((rd y l) == 0)), zR, H', ⟨by have := e0.out; have := g0.out; first | omega | exact Nat.le_refl _⟩, ⟨zM u⟩, ⟨zB⟩⟩
   case rest =>
    clear a3
    try clear c1
    try clear p1
    try clear q1
    try clear S3
    try clear c2
    try clear p2
    try clear c6
    try clear U
    try clear c8
    try clear S1
    try clear O
    try clear j1
    try clear m1
    try clear n1
    try clear M0
    try clear o1
    try clear G1
    try clear N1
    try clear e2
    try clear f2
    try clear U2
    try clear I1
    try clear O1
    try clear T1
    try clear J1
    try clear E2
    try clear m2
    try clear s3
    try clear n2
    try clear t3
    try clear t1
    try clear a0
    try clear F2
    try clear t0 x0 y0 A0 B0 C0
    try clear D0 E0 F0 G0 I0 J0
    try clear m0 n0 o0 p0 q0 s0
    try clear y1 B1 C1 D1 E1 F1
    try clear o2 q2 s2 t2 x2 y2
    try clear S0 T0 U0 V0 X0 a1
    try clear b1 d1 e1 f1 g1 i1
    try clear L
    try clear L0
    try clear E
    try clear p1
    try clear e2
    try clear O0
    try clear U1
    try clear b0
    try clear p2
    try clear q1
    try clear f2
    try clear R0
    try clear V1
    try clear c0
    obtain ⟨kq, s1, rfl, HA, d0, u, HB⟩ := hcut
    cases kq with
    | zero => exact absurd HA.out (by simp [spec_l11Access.j2])
    | succ T3 =>
     have H := HA.out
     clear HA
     simp only [spec_l11Access.j2] at H
     by_cases O2 : s1 = true
     · subst O2
       rw [if_pos rfl] at H
       have H' := zK H
       clear H
       go_wp2
       repeat (go_quiet (fail); try go_wp2)
       go_roundg T3
       case measure => have := e0.out; have := g0.out; have := d0.out; omega
       case rel => exact ⟨(X), (f0), (wrap64 (l + 1)), zR, zR, zR, H', ⟨by have := e0.out; have := g0.out; have := d0.out; omega⟩, ⟨zM u⟩, ⟨zB⟩⟩
     replace O2 := Bool.eq_false_iff.mpr O2
     subst O2
     rw [if_neg (show ¬ (false = true) by decide)] at H
     have d3 := zK H
     clear H
     go_upto_region 10 with (fail)
     repeat (go_quiet (fail); go_upto_region 10 with (fail))
     go_cut [80] (fun v80 wc => ∃ (kq : Nat) (x1 : Bool), v80 = .bool x1 ∧ Aside0 (spec_l11Access.j3 kq B M X f0 l (rd y l) x1 q z y = some r) ∧ Aside0 (kq ≤ T3) ∧ Aside0 (wc.heap[i0]? = some (.cells #[.int .i64 q, .int .i64 z, (.slice (some x3) y.length T)] 76 (0, 0))) ∧ Aside0 (Below w.heap.size w wc))
     case first =>
      have H := d3.out
      clear d3
      by_cases R2 : 0 ≤ l
      rotate_left
      · rw [if_neg R2] at H
        exact absurd H (by simp)
      rw [if_pos R2] at H
      have G2 := z1 R2
      clear R2
      (first | rw [G2] | (simp only [i64_w, i32_w]; rw [G2]) | skip)
      by_cases T2 : l < (B.length : Int)
      rotate_left
      · rw [if_neg T2] at H
        exact absurd H (by simp)
      rw [if_pos T2] at H
      have b4 := z1 T2
      clear T2
      by_cases L1 : (rd B l) = 1
      · rw [if_pos L1] at H
        have y3 := beq_iff_eq.mpr L1
        have A3 := bne_eq_false_iff_eq.mpr L1
        clear L1
        have H' := zK H
        clear H
        have I : 0 ≤ (l : Int) := z3
        have J : l < (B.length : Int) := z3
        obtain ⟨B3, X1, A⟩ := Kd.at_int R1.out l I J
        cases X1
        (try replace A := zX HB A)
        replace I := eq_true I
        replace J := eq_true J
        go_wp2
        repeat (go_quiet (fail); try go_wp2)
        go_meet
        case rel => exact ⟨_, (true), zR, H', ⟨by have := e0.out; have := g0.out; have := d0.out; first | omega | exact Nat.le_refl _⟩, ⟨zM u⟩, ⟨zB⟩⟩
      rw [if_neg L1] at H
      have y3 := beq_eq_false_iff_ne.mpr L1
      have A3 := bne_iff_ne.mpr L1
      by_cases a2 : (rd y l) < (-4096)
      · rw [if_pos a2] at H
        have C3 := z1 a2
        clear a2
        have H' := zK H
        clear H
        have I : 0 ≤ (l : Int) := z3
        have J : l < (B.length : Int) := z3
        obtain ⟨B3, X1, A⟩ := Kd.at_int R1.out l I J
        cases X1
        (try replace A := zX HB A)
        replace I := eq_true I
        replace J := eq_true J
        go_wp2
        repeat (go_quiet (fail); try go_wp2)
        go_meet
        case rel => exact ⟨_, (true), zR, H', ⟨by have := e0.out; have := g0.out; have := d0.out; first | omega | exact Nat.le_refl _⟩, ⟨zM u⟩, ⟨zB⟩⟩
      rw [if_neg a2] at H
      have C3 := z2 a2
      clear a2
      have H' := zK H
      clear H
      have I : 0 ≤ (l : Int) := z3
      have J : l < (B.length : Int) := z3
      obtain ⟨B3, X1, A⟩ := Kd.at_int R1.out l I J
      cases X1
      (try replace A := zX HB A)
      replace I := eq_true I
      replace J := eq_true J
      go_wp2
      repeat (go_quiet (fail); try go_wp2)
      go_meet
      case rel => exact ⟨_, (decide ((rd y l) > 4096)), zR, H', ⟨by have := e0.out; have := g0.out; have := d0.out; first | omega | exact Nat.le_refl _⟩, ⟨zM u⟩, ⟨zB⟩⟩
     case rest =>
      clear d3
      try clear c1
      try clear p1
      try clear q1
      try clear S3
      try clear c2
      try clear p2
      try clear c3
      try clear c6
      try clear U
      try clear p6
      try clear c8
      try clear S1
      try clear O
      try clear j1
      try clear m1
      try clear n1
      try clear M0
      try clear o1
      try clear G1
      try clear N1
      try clear e2
      try clear f2
      try clear U2
      try clear I1
      try clear O1
      try clear T1
      try clear J1
      try clear E2
      try clear m2
      try clear s3
      try clear n2
      try clear t3
      try clear t1
      try clear a0
      try clear F2
      try clear O2
      try clear R2
      try clear G2
      try clear T2
      try clear b4
      try clear L1
      try clear y3
      try clear A3
      try clear a2
      try clear C3
      try clear t0 x0 y0 A0 B0 C0
      try clear D0 E0 F0 G0 I0 J0
      try clear m0 n0 o0 p0 q0 s0
      try clear y1 B1 C1 D1 E1 F1
      try clear o2 q2 s2 t2 x2 y2
      try clear S0 T0 U0 V0 X0 a1
      try clear b1 d1 e1 f1 g1 i1
      try clear L
      try clear L0
      try clear E
      try clear A
      try clear p1
      try clear e2
      try clear O0
      try clear U1
      try clear b0
      try clear I
      try clear p2
      try clear q1
      try clear f2
      try clear R0
      try clear V1
      try clear c0
      try clear J
      obtain ⟨kq, x1, rfl, HA, I2, u, HB⟩ := hcut
      cases kq with
      | zero => exact absurd HA.out (by simp [spec_l11Access.j3])
      | succ U3 =>
       have H := HA.out
       clear HA
       simp only [spec_l11Access.j3] at H
       by_cases D3 : x1 = true
       · subst D3
         rw [if_pos rfl] at H
         obtain rfl := z5 H
         go_wp2
         repeat (go_quiet (fail); try go_wp2)
         go_ret
         exact ⟨zE, zB⟩
       replace D3 := Bool.eq_false_iff.mpr D3
       subst D3
       rw [if_neg (show ¬ (false = true) by decide)] at H
       by_cases B2 : (rd y l) < 0
       · rw [if_pos B2] at H
         have c4 := z1 B2
         clear B2
         by_cases E3 : 0 ≤ l
         rotate_left
         · rw [if_neg E3] at H
           exact absurd H (by simp)
         rw [if_pos E3] at H
         have L4 := z1 E3
         clear E3
         by_cases F3 : l < (B.length : Int)
         rotate_left
         · rw [if_neg F3] at H
           exact absurd H (by simp)
         rw [if_pos F3] at H
         have M4 := z1 F3
         clear F3
         have H' := zK H
         clear H
         have e3 : 0 ≤ (l : Int) := z3
         have f3 : l < (B.length : Int) := z3
         obtain ⟨N4, o4, C2⟩ := Kd.at_int R1.out l e3 f3
         cases o4
         (try replace C2 := zX HB C2)
         replace e3 := eq_true e3
         replace f3 := eq_true f3
         go_wp2
         repeat (go_quiet (fail); try go_wp2)
         go_roundg U3
         case measure => have := e0.out; have := g0.out; have := d0.out; have := I2.out; omega
         case rel => exact ⟨(wrap64 (X + (wrap64 ((rd y l) * (wrap64 ((rd B l) - 1)))))), (f0), (wrap64 (l + 1)), zR, zR, zR, H', ⟨by have := e0.out; have := g0.out; have := d0.out; have := I2.out; omega⟩, ⟨zM u⟩, ⟨zB⟩⟩
       rw [if_neg B2] at H
       have c4 := z2 B2
       clear B2
       by_cases G3 : 0 ≤ l
       rotate_left
       · rw [if_neg G3] at H
         exact absurd H (by simp)
       rw [if_pos G3] at H
       have O4 := z1 G3
       clear G3
       by_cases I3 : l < (B.length : Int)
       rotate_left
       · rw [if_neg I3] at H
         exact absurd H (by simp)
       rw [if_pos I3] at H
       have R4 := z1 I3
       clear I3
       have H' := zK H
       clear H
       have g3 : 0 ≤ (l : Int) := z3
       have i3 : l < (B.length : Int) := z3
       obtain ⟨S4, p4, D2⟩ := Kd.at_int R1.out l g3 i3
       cases p4
       (try replace D2 := zX HB D2)
       replace g3 := eq_true g3
       replace i3 := eq_true i3
       go_wp2
       repeat (go_quiet (fail); try go_wp2)
       go_roundg U3
       case measure => have := e0.out; have := g0.out; have := d0.out; have := I2.out; omega
       case rel => exact ⟨(X), (wrap64 (f0 + (wrap64 ((rd y l) * (wrap64 ((rd B l) - 1)))))), (wrap64 (l + 1)), zR, zR, zR, H', ⟨by have := e0.out; have := g0.out; have := d0.out; have := I2.out; omega⟩, ⟨zM u⟩, ⟨zB⟩⟩
end Go.Proofs.Ytmcboiffbcnalaa.PFnExactLives
