-- Printed out of the translation by this session's own turned copy of a printer; Lean checks it.
import Derived.Test.YtmcboiffbcnalaaPFnExactPlanOkx0
import Derived.Test.YtmcboiffbcnalaaPFnExactPlanOkx14
namespace Go.Proofs.Ytmcboiffbcnalaa.PFnExactPlanOk
open Go.RowKit Go.Proofs.YtmcboiffbcnalaaW.PrintWords Go.Proofs.YtmcboiffbcnalaaW.PrintLast Go.Proofs.YtmcboiffbcnalaaW.PrintMore
attribute [local go_sem] max2_int min2_int max_two min_two max_three min_three max_four min_four
set_option linter.unusedVariables false
set_option linter.unusedSimpArgs false
set_option maxHeartbeats 8000000
set_option maxRecDepth 100000
mutual
def impl_codeOk.j0 : Nat → List (S122) → Int → Bool → Option (Bool)
 | 0, _, _, _ => none
 | k + 1, a, q, l => if l = true then (some false) else (impl_codeOk.l0 k q a (a.length : Int) 0)
def impl_codeOk.l0 : Nat → Int → List (S122) → Int → Int → Option (Bool)
 | 0, _, _, _, _ => none
 | k + 1, u, l, q, a => if a < q then (if 0 ≤ a then (if a < (l.length : Int) then (if ((rd_T122 l a).f0) = 1 then (if ((rd_T122 l a).f1) ≥ 0 then (if ((rd_T122 l a).f1) < u then (impl_codeOk.j4 k u (((rd_T122 l a).f2) == 0) l q a) else (impl_codeOk.j4 k u false l q a)) else (impl_codeOk.j4 k u false l q a)) else (if ((rd_T122 l a).f0) = 2 then ((impl_isNum.f ((rd_T122 l a).f1)).bind fun x => (if x = true then (impl_codeOk.j4 k u (((rd_T122 l a).f2) == 0) l q a) else (impl_codeOk.j4 k u false l q a))) else (if ((rd_T122 l a).f0) = 3 then (impl_codeOk.j2 k u a false l q a ((rd_T122 l a).f0) (((rd_T122 l a).f0) == 3) ((rd_T122 l a).f0) ((rd_T122 l a).f1) ((rd_T122 l a).f2)) else (if ((rd_T122 l a).f0) = 4 then (impl_codeOk.j2 k u a false l q a ((rd_T122 l a).f0) (((rd_T122 l a).f0) == 4) ((rd_T122 l a).f0) ((rd_T122 l a).f1) ((rd_T122 l a).f2)) else (impl_codeOk.j2 k u a false l q a ((rd_T122 l a).f0) (((rd_T122 l a).f0) == 5) ((rd_T122 l a).f0) ((rd_T122 l a).f1) ((rd_T122 l a).f2)))))) else (none)) else (none)) else (some true)
def impl_codeOk.j4 : Nat → Int → Bool → List (S122) → Int → Int → Option (Bool)
 | 0, _, _, _, _, _ => none
 | k + 1, u, x, a, l, q => if x = true then (impl_codeOk.l0 k u a l (wrap64 (q + 1))) else (some false)
def impl_codeOk.j2 : Nat → Int → Int → Bool → List (S122) → Int → Int → Int → Bool → Int → Int → Int → Option (Bool)
 | 0, _, _, _, _, _, _, _, _, _, _, _ => none
 | k + 1, A, B, D, u, x, y, z, E, q, a, l => if E = true then (if a ≥ 0 then (if a < B then (if l ≥ 0 then (impl_codeOk.j4 k A (decide (l < B)) u x y) else (impl_codeOk.j4 k A false u x y)) else (impl_codeOk.j4 k A false u x y)) else (impl_codeOk.j4 k A false u x y)) else (if z = 6 then (impl_codeOk.j3 k A B D u x y (z == 6) q a l) else (if z = 7 then (impl_codeOk.j3 k A B D u x y (z == 7) q a l) else (if z = 8 then (impl_codeOk.j3 k A B D u x y (z == 8) q a l) else (impl_codeOk.j3 k A B D u x y (z == 9) q a l))))
def impl_codeOk.j3 : Nat → Int → Int → Bool → List (S122) → Int → Int → Bool → Int → Int → Int → Option (Bool)
 | 0, _, _, _, _, _, _, _, _, _, _ => none
 | k + 1, y, B, D, l, q, u, A, z, a, x => if A = true then (if a ≥ 0 then (if a < B then (impl_codeOk.j4 k y (x == 0) l q u) else (impl_codeOk.j4 k y false l q u)) else (impl_codeOk.j4 k y false l q u)) else (impl_codeOk.j4 k y D l q u)
end
def impl_codeOk.f (k : Nat) (a : List (S122)) (l : Int) : Option (Bool) := if (a.length : Int) < 1 then (impl_codeOk.j0 k a l true) else (impl_codeOk.j0 k a l (decide ((a.length : Int) > 60)))
theorem impl_codeOk.calls (k) (A0) (c0) (q : List (S122)) (a1) (r : Bool) (w) (X3 : Kd.C k122 w A0 q.length q) (a4 : q.length ≤ c0) (h : impl_codeOk.f k q a1 = some r) :
 Calls Try.prog 68 #[.slice A0 q.length c0, .int .i64 a1] w fun e w' => e = .returned (.bool r) ∧ Below w.heap.size w w' := by
 have B4 := Try.underlying122
 have o4 := zK X3
 have J4 := zK a4
 clear X3 a4
 have HB := zK (Below.refl w.heap.size w)
 have H : (if (q.length : Int) < 1 then (impl_codeOk.j0 k q a1 true) else (impl_codeOk.j0 k q a1 (decide ((q.length : Int) > 60)))) = some r := h
 clear h
 have R3 := zK H
 clear H
 go_enter Try.func68, Try.ntmps68
 go_upto_region 1 with (fail)
 go_cut [15] (fun v15 wc => ∃ (kq : Nat) (y1 : Bool), v15 = .bool y1 ∧ Aside0 (impl_codeOk.j0 kq q a1 y1 = some r) ∧ Aside0 (kq ≤ k) ∧ Aside0 (Below w.heap.size w wc))
 case first =>
  have H := R3.out
  clear R3
  by_cases c4 : (q.length : Int) < 1
  · rw [if_pos c4] at H
    have D := z1 c4
    have m0 : decide (q.length < 1) = true := z1 (by omega)
    clear c4
    (first | rw [D] | (simp only [i64_w, i32_w]; rw [D]) | skip)
    have H' := zK H
    clear H
    go_wp2
    go_meet
    case rel => exact ⟨_, (true), zR, H', ⟨by first | omega | exact Nat.le_refl _⟩, ⟨zB⟩⟩
  rw [if_neg c4] at H
  have D := z2 c4
  have m0 : decide (q.length < 1) = false := z2 (by omega)
  clear c4
  (first | rw [D] | (simp only [i64_w, i32_w]; rw [D]) | skip)
  have H' := zK H
  clear H
  go_wp2
  go_meet
  case rel => exact ⟨_, (decide ((q.length : Int) > 60)), zR, H', ⟨by first | omega | exact Nat.le_refl _⟩, ⟨zB⟩⟩
 case rest =>
  clear R3
  try clear p2
  try clear c4
  try clear D
  try clear m0
  obtain ⟨kq, y1, rfl, HA, x, HB⟩ := hcut
  cases kq with
  | zero => exact absurd HA.out (by simp [impl_codeOk.j0])
  | succ b4 =>
   have H := HA.out
   clear HA
   simp only [impl_codeOk.j0] at H
   by_cases c5 : y1 = true
   · subst c5
     rw [if_pos rfl] at H
     obtain rfl := z5 H
     go_wp2
     go_ret
     exact ⟨zE, zB⟩
   replace c5 := Bool.eq_false_iff.mpr c5
   subst c5
   rw [if_neg (show ¬ (false = true) by decide)] at H
   have H' := zK H
   clear H
   go_wp2
   go_loopg [18] b4 (fun kq v18 w' => ∃ (a : Int), v18 = .int .i64 a ∧ Aside0 (impl_codeOk.l0 kq a1 q (q.length : Int) a = some r) ∧ Aside0 (kq ≤ b4) ∧ Aside0 (Below w.heap.size w w'))
   case atStart => exact ⟨(0), zR, H', ⟨Nat.le_refl _⟩, ⟨zB⟩⟩
   clear H'
   try clear p2
   try clear c4
   try clear D
   try clear m0
   try clear c5
   try clear p2
   obtain ⟨a, rfl, HA, y, HB⟩ := hrel
   rcases gk with _ | k2
   · exact absurd HA.out (by simp [impl_codeOk.l0])
   have H := HA.out
   clear HA
   simp only [impl_codeOk.l0] at H
   by_cases c6 : a < (q.length : Int)
   rotate_left
   · rw [if_neg c6] at H
     have F2 := z2 c6
     clear c6
     obtain rfl := z5 H
     go_wp2
     go_ret
     exact ⟨zE, zB⟩
   rw [if_pos c6] at H
   have F2 := z1 c6
   clear c6
   by_cases c7 : 0 ≤ a
   rotate_left
   · rw [if_neg c7] at H
     exact absurd H (by simp)
   rw [if_pos c7] at H
   have d3 := z1 c7
   clear c7
   by_cases c8 : a < (q.length : Int)
   rotate_left
   · rw [if_neg c8] at H
     exact absurd H (by simp)
   rw [if_pos c8] at H
   have f3 := z1 c8
   clear c8
   have S3 := zK H
   clear H
   have n0 : 0 ≤ (a : Int) := z3
   have o0 : a < (q.length : Int) := z3
   obtain ⟨C4, g4, E, I, J⟩ := at_T122 o4.out a n0 o0
   cases g4
   (try replace E := zX HB E)
   (try replace I := zX HB I)
   (try replace J := zX HB J)
   replace n0 := eq_true n0
   replace o0 := eq_true o0
   go_upto_block 2 with (first | ((with_reducible refine gd 6 rfl ?_); (try (refine gate_guard (by rfl) ?_; dsimp only)); refine zJ 6 #[.int .i64 0, .int .i64 0, .int .i64 0] 122 ?_; intro u hg L4 hbox hb; have p4 := z8 hb; have q4 := zK (hbox); have s4 := z9 hg; have t4 := z9 hg; revert p4 q4 s4 t4; clear HB; intro HB l D4 E4; clear hb hbox hg; obtain ⟨p0, q0, s0, t0, x0, y0⟩ := zc3 l))
   (try simp only [Act.put, zq1, zq2, zq3])
   go_cut [7] (fun v7 wc => ∃ (kq : Nat) (G2 : Bool), v7 = .bool G2 ∧ Aside0 (impl_codeOk.j4 kq a1 G2 q (q.length : Int) a = some r) ∧ Aside0 (kq ≤ k2) ∧ Aside0 (wc.heap[u]? = some (.cells #[.int .i64 ((rd_T122 q a).f0), .int .i64 ((rd_T122 q a).f1), .int .i64 ((rd_T122 q a).f2)] 122 (0, 0))) ∧ Aside0 (Below w.heap.size w wc))
   case first =>
    have H := S3.out
    clear S3
    by_cases M : ((rd_T122 q a).f0) = 1
    · rw [if_pos M] at H
      have A := beq_iff_eq.mpr M
      have A1 := bne_eq_false_iff_eq.mpr M
      clear M
      (first | rw [A] | (simp only [i64_w, i32_w]; rw [A]) | skip)
      by_cases X : ((rd_T122 q a).f1) ≥ 0
      rotate_left
      · rw [if_neg X] at H
        have B1 := z2 X
        clear X
        have H' := zK H
        clear H
        obtain ⟨B0, C0, D0, E0, F0, G0⟩ := zc3 l
        go_wp2
        go_meet
        case rel => exact ⟨_, (false), zR, H', ⟨by have := x.out; have := y.out; first | omega | exact Nat.le_refl _⟩, ⟨zW l⟩, ⟨zB⟩⟩
      rw [if_pos X] at H
      have B1 := z1 X
      clear X
      by_cases a0 : ((rd_T122 q a).f1) < a1
      rotate_left
      · rw [if_neg a0] at H
        have C1 := z2 a0
        clear a0
        have H' := zK H
        clear H
        obtain ⟨I0, J0, L0, M0, N0, O0⟩ := zc3 l
        go_wp2
        go_meet
        case rel => exact ⟨_, (false), zR, H', ⟨by have := x.out; have := y.out; first | omega | exact Nat.le_refl _⟩, ⟨zW l⟩, ⟨zB⟩⟩
      rw [if_pos a0] at H
      have C1 := z1 a0
      clear a0
      have H' := zK H
      clear H
      obtain ⟨R0, S0, T0, U0, V0, X0⟩ := zc3 l
      go_wp2
      go_meet
      case rel => exact ⟨_, ((((rd_T122 q a).f2) == 0)), zR, H', ⟨by have := x.out; have := y.out; first | omega | exact Nat.le_refl _⟩, ⟨zW l⟩, ⟨zB⟩⟩
    rw [if_neg M] at H
    have A := beq_eq_false_iff_ne.mpr M
    have A1 := bne_iff_ne.mpr M
    (first | rw [A] | (simp only [i64_w, i32_w]; rw [A]) | skip)
    by_cases O : ((rd_T122 q a).f0) = 2
    · rw [if_pos O] at H
      have D1 := beq_iff_eq.mpr O
      have E1 := bne_eq_false_iff_eq.mpr O
      clear O
      replace H := z6 H
      obtain ⟨i4, T3, H⟩ := H
      have d4 := zK T3
      clear T3
      by_cases L1 : i4 = true
      · subst L1
        rw [if_pos rfl] at H
        have H' := zK H
        clear H
        obtain ⟨b1, d1, e1, g1, i1, j1⟩ := zc3 l
        go_wp2_with (first | ((with_reducible refine gc 82 rfl ?_); refine zF 45 Try.func82 #[.int .i64 ((rd_T122 q a).f1)] rfl zL ?_; (with_reducible refine (impl_isNum.calls ((rd_T122 q a).f1) true _ d4.out).mono ?_); rintro e w' ⟨rfl, ⟨nd, rfl⟩⟩; refine ⟨_, rfl, ?_⟩))
        go_meet
        case rel => exact ⟨_, ((((rd_T122 q a).f2) == 0)), zR, H', ⟨by have := x.out; have := y.out; first | omega | exact Nat.le_refl _⟩, ⟨zW l⟩, ⟨zB⟩⟩
      replace L1 := Bool.eq_false_iff.mpr L1
      subst L1
      rw [if_neg (show ¬ (false = true) by decide)] at H
      have H' := zK H
      clear H
      obtain ⟨l1, m1, n1, o1, p1, q1⟩ := zc3 l
      go_wp2_with (first | ((with_reducible refine gc 82 rfl ?_); refine zF 45 Try.func82 #[.int .i64 ((rd_T122 q a).f1)] rfl zL ?_; (with_reducible refine (impl_isNum.calls ((rd_T122 q a).f1) false _ d4.out).mono ?_); rintro e w' ⟨rfl, ⟨nd, rfl⟩⟩; refine ⟨_, rfl, ?_⟩))
      go_meet
      case rel => exact ⟨_, (false), zR, H', ⟨by have := x.out; have := y.out; first | omega | exact Nat.le_refl _⟩, ⟨zW l⟩, ⟨zB⟩⟩
    rw [if_neg O] at H
    have D1 := beq_eq_false_iff_ne.mpr O
    have E1 := bne_iff_ne.mpr O
    have g3 := zK H
    clear H
    go_upto_if 51 with (fail)
    go_cut [51] (fun v51 wc => ∃ (kq : Nat) (b0 : Bool), v51 = .bool b0 ∧ Aside0 (impl_codeOk.j2 kq a1 a false q (q.length : Int) a ((rd_T122 q a).f0) b0 ((rd_T122 q a).f0) ((rd_T122 q a).f1) ((rd_T122 q a).f2) = some r) ∧ Aside0 (kq ≤ k2) ∧ Aside0 (wc.heap[u]? = some (.cells #[.int .i64 ((rd_T122 q a).f0), .int .i64 ((rd_T122 q a).f1), .int .i64 ((rd_T122 q a).f2)] 122 (0, 0))) ∧ Aside0 (Below w.heap.size w wc))
    case first =>
     have H := g3.out
     clear g3
     by_cases T : ((rd_T122 q a).f0) = 3
     · rw [if_pos T] at H
       have B := beq_iff_eq.mpr T
       have F1 := bne_eq_false_iff_eq.mpr T
       clear T
       (first | rw [B] | (simp only [i64_w, i32_w]; rw [B]) | skip)
       have H' := zK H
       clear H
       go_wp2
       go_meet
       case rel => exact ⟨_, ((((rd_T122 q a).f0) == 3)), zR, H', ⟨by have := x.out; have := y.out; first | omega | exact Nat.le_refl _⟩, ⟨zW l⟩, ⟨zB⟩⟩
     rw [if_neg T] at H
     have B := beq_eq_false_iff_ne.mpr T
     have F1 := bne_iff_ne.mpr T
     (first | rw [B] | (simp only [i64_w, i32_w]; rw [B]) | skip)
     by_cases U : ((rd_T122 q a).f0) = 4
     rotate_left
     · rw [if_neg U] at H
       have G1 := beq_eq_false_iff_ne.mpr U
       have I1 := bne_iff_ne.mpr U
       have H' := zK H
       clear H
       go_wp2
       go_meet
       case rel => exact ⟨_, ((((rd_T122 q a).f0) == 5)), zR, H', ⟨by have := x.out; have := y.out; first | omega | exact Nat.le_refl _⟩, ⟨zW l⟩, ⟨zB⟩⟩
     rw [if_pos U] at H
     have G1 := beq_iff_eq.mpr U
     have I1 := bne_eq_false_iff_eq.mpr U
     clear U
     have H' := zK H
     clear H
     go_wp2
     go_meet
     case rel => exact ⟨_, ((((rd_T122 q a).f0) == 4)), zR, H', ⟨by have := x.out; have := y.out; first | omega | exact Nat.le_refl _⟩, ⟨zW l⟩, ⟨zB⟩⟩
    case rest =>
     clear g3
     try clear c1
     try clear c2
     try clear p2
     try clear p3
     try clear q3
     try clear e4
     try clear c4
     try clear D
     try clear m0
     try clear c5
     try clear c6
     try clear F2
     try clear c7
     try clear d3
     try clear c8
     try clear f3
     try clear M
     try clear A
     try clear A1
     try clear X
     try clear B1
     try clear a0
     try clear C1
     try clear O
     try clear D1
     try clear E1
     try clear L1
     try clear T
     try clear B
     try clear F1
     try clear U
     try clear G1
     try clear I1
     try clear p0 q0 s0 t0 x0 y0
     try clear R0 S0 T0 U0 V0 X0
     try clear I0 J0 L0 M0 N0 O0
     try clear B0 C0 D0 E0 F0 G0
     try clear b1 d1 e1 g1 i1 j1
     try clear l1 m1 n1 o1 p1 q1
     try clear E
     try clear I
     try clear J
     try clear p2
     try clear n0
     try clear o0
     obtain ⟨kq, b0, rfl, HA, z, l, HB⟩ := hcut
     cases kq with
     | zero => exact absurd HA.out (by simp [impl_codeOk.j2])
     | succ l4 =>
      have H := HA.out
      clear HA
      simp only [impl_codeOk.j2] at H
      by_cases R1 : b0 = true
      · subst R1
        rw [if_pos rfl] at H
        by_cases s1 : ((rd_T122 q a).f1) ≥ 0
        rotate_left
        · rw [if_neg s1] at H
          have I2 := z2 s1
          clear s1
          have H' := zK H
          clear H
          have S1 : wc.cell? ⟨u, 0, none⟩ = some (.int .i64 ((rd_T122 q a).f0)) := zy l 0
          have T1 : wc.cell? ⟨u, 1, none⟩ = some (.int .i64 ((rd_T122 q a).f1)) := zy l 1
          have U1 : wc.cell? ⟨u, 2, none⟩ = some (.int .i64 ((rd_T122 q a).f2)) := zy l 2
          have V1 := zf l.out 0
          have X1 := zf l.out 1
          have a2 := zf l.out 2
          go_wp2
          go_meet
          case rel => exact ⟨_, (false), zR, H', ⟨by have := x.out; have := y.out; have := z.out; first | omega | exact Nat.le_refl _⟩, ⟨zM l⟩, ⟨zB⟩⟩
        rw [if_pos s1] at H
        have I2 := z1 s1
        clear s1
        by_cases t1 : ((rd_T122 q a).f1) < a
        rotate_left
        · rw [if_neg t1] at H
          have J2 := z2 t1
          clear t1
          have H' := zK H
          clear H
          have b2 : wc.cell? ⟨u, 0, none⟩ = some (.int .i64 ((rd_T122 q a).f0)) := zy l 0
          have d2 : wc.cell? ⟨u, 1, none⟩ = some (.int .i64 ((rd_T122 q a).f1)) := zy l 1
          have e2 : wc.cell? ⟨u, 2, none⟩ = some (.int .i64 ((rd_T122 q a).f2)) := zy l 2
          have g2 := zf l.out 0
          have i2 := zf l.out 1
          have l2 := zf l.out 2
          go_wp2
          go_meet
          case rel => exact ⟨_, (false), zR, H', ⟨by have := x.out; have := y.out; have := z.out; first | omega | exact Nat.le_refl _⟩, ⟨zM l⟩, ⟨zB⟩⟩
        rw [if_pos t1] at H
        have J2 := z1 t1
        clear t1
        by_cases x1 : ((rd_T122 q a).f2) ≥ 0
        rotate_left
        · rw [if_neg x1] at H
          have L2 := z2 x1
          clear x1
          have H' := zK H
          clear H
          have m2 : wc.cell? ⟨u, 0, none⟩ = some (.int .i64 ((rd_T122 q a).f0)) := zy l 0
          have n2 : wc.cell? ⟨u, 1, none⟩ = some (.int .i64 ((rd_T122 q a).f1)) := zy l 1
          have o2 : wc.cell? ⟨u, 2, none⟩ = some (.int .i64 ((rd_T122 q a).f2)) := zy l 2
          have q2 := zf l.out 0
          have s2 := zf l.out 1
          have t2 := zf l.out 2
          go_wp2
          go_meet
          case rel => exact ⟨_, (false), zR, H', ⟨by have := x.out; have := y.out; have := z.out; first | omega | exact Nat.le_refl _⟩, ⟨zM l⟩, ⟨zB⟩⟩
        rw [if_pos x1] at H
        have L2 := z1 x1
        clear x1
        have H' := zK H
        clear H
        have x2 : wc.cell? ⟨u, 0, none⟩ = some (.int .i64 ((rd_T122 q a).f0)) := zy l 0
        have y2 : wc.cell? ⟨u, 1, none⟩ = some (.int .i64 ((rd_T122 q a).f1)) := zy l 1
        have A2 : wc.cell? ⟨u, 2, none⟩ = some (.int .i64 ((rd_T122 q a).f2)) := zy l 2
        have B2 := zf l.out 0
        have C2 := zf l.out 1
        have D2 := zf l.out 2
        go_wp2
        go_meet
        case rel => exact ⟨_, (decide (((rd_T122 q a).f2) < a)), zR, H', ⟨by have := x.out; have := y.out; have := z.out; first | omega | exact Nat.le_refl _⟩, ⟨zM l⟩, ⟨zB⟩⟩
      replace R1 := Bool.eq_false_iff.mpr R1
      subst R1
      rw [if_neg (show ¬ (false = true) by decide)] at H
      have i3 := zK H
      clear H
      go_upto_if 75 with (fail)
      go_cut [75] (fun v75 wc => ∃ (kq : Nat) (d0 : Bool), v75 = .bool d0 ∧ Aside0 (impl_codeOk.j3 kq a1 a false q (q.length : Int) a d0 ((rd_T122 q a).f0) ((rd_T122 q a).f1) ((rd_T122 q a).f2) = some r) ∧ Aside0 (kq ≤ l4) ∧ Aside0 (wc.heap[u]? = some (.cells #[.int .i64 ((rd_T122 q a).f0), .int .i64 ((rd_T122 q a).f1), .int .i64 ((rd_T122 q a).f2)] 122 (0, 0))) ∧ Aside0 (Below w.heap.size w wc))
      case first =>
       have H := i3.out
       clear i3
       by_cases e0 : ((rd_T122 q a).f0) = 6
       · rw [if_pos e0] at H
         have L := beq_iff_eq.mpr e0
         have M2 := bne_eq_false_iff_eq.mpr e0
         clear e0
         (first | rw [L] | (simp only [i64_w, i32_w]; rw [L]) | skip)
         have H' := zK H
         clear H
         go_wp2
         go_meet
         case rel => exact ⟨_, ((((rd_T122 q a).f0) == 6)), zR, H', ⟨by have := x.out; have := y.out; have := z.out; first | omega | exact Nat.le_refl _⟩, ⟨zM l⟩, ⟨zB⟩⟩
       rw [if_neg e0] at H
       have L := beq_eq_false_iff_ne.mpr e0
       have M2 := bne_iff_ne.mpr e0
       (first | rw [L] | (simp only [i64_w, i32_w]; rw [L]) | skip)
       by_cases g0 : ((rd_T122 q a).f0) = 7
       · rw [if_pos g0] at H
         have N2 := beq_iff_eq.mpr g0
         have O2 := bne_eq_false_iff_eq.mpr g0
         clear g0
         have H' := zK H
         clear H
         go_wp2
         go_meet
         case rel => exact ⟨_, ((((rd_T122 q a).f0) == 7)), zR, H', ⟨by have := x.out; have := y.out; have := z.out; first | omega | exact Nat.le_refl _⟩, ⟨zM l⟩, ⟨zB⟩⟩
       rw [if_neg g0] at H
       have N2 := beq_eq_false_iff_ne.mpr g0
       have O2 := bne_iff_ne.mpr g0
       by_cases i0 : ((rd_T122 q a).f0) = 8
       rotate_left
       · rw [if_neg i0] at H
         have R2 := beq_eq_false_iff_ne.mpr i0
         have T2 := bne_iff_ne.mpr i0
         have H' := zK H
         clear H
         go_wp2
         go_meet
         case rel => exact ⟨_, ((((rd_T122 q a).f0) == 9)), zR, H', ⟨by have := x.out; have := y.out; have := z.out; first | omega | exact Nat.le_refl _⟩, ⟨zM l⟩, ⟨zB⟩⟩
       rw [if_pos i0] at H
       have R2 := beq_iff_eq.mpr i0
       have T2 := bne_eq_false_iff_eq.mpr i0
       clear i0
       have H' := zK H
       clear H
       go_wp2
       go_meet
       case rel => exact ⟨_, ((((rd_T122 q a).f0) == 8)), zR, H', ⟨by have := x.out; have := y.out; have := z.out; first | omega | exact Nat.le_refl _⟩, ⟨zM l⟩, ⟨zB⟩⟩
      case rest =>
       clear i3
       try clear c1
       try clear c2
       try clear p2
       try clear c3
       try clear p3
       try clear q3
       try clear e4
       try clear c4
       try clear D
       try clear m0
       try clear c5
       try clear c6
       try clear F2
       try clear c7
       try clear d3
       try clear c8
       try clear f3
       try clear M
       try clear A
       try clear A1
       try clear X
       try clear B1
       try clear a0
       try clear C1
       try clear O
       try clear D1
       try clear E1
       try clear L1
       try clear T
       try clear B
       try clear F1
       try clear U
       try clear G1
       try clear I1
       try clear R1
       try clear s1
       try clear I2
       try clear t1
       try clear J2
       try clear x1
       try clear L2
       try clear e0
       try clear L
       try clear M2
       try clear g0
       try clear N2
       try clear O2
       try clear i0
       try clear R2
       try clear T2
       try clear p0 q0 s0 t0 x0 y0
       try clear R0 S0 T0 U0 V0 X0
       try clear I0 J0 L0 M0 N0 O0
       try clear B0 C0 D0 E0 F0 G0
       try clear b1 d1 e1 g1 i1 j1
       try clear l1 m1 n1 o1 p1 q1
       try clear x2 y2 A2 B2 C2 D2
       try clear m2 n2 o2 q2 s2 t2
       try clear b2 d2 e2 g2 i2 l2
       try clear S1 T1 U1 V1 X1 a2
       try clear E
       try clear I
       try clear J
       try clear p2
       try clear p3
       try clear n0
       try clear q3
       try clear o0
       obtain ⟨kq, d0, rfl, HA, U2, l, HB⟩ := hcut
       cases kq with
       | zero => exact absurd HA.out (by simp [impl_codeOk.j3])
       | succ G4 =>
        have H := HA.out
        clear HA
        simp only [impl_codeOk.j3] at H
        by_cases a3 : d0 = true
        rotate_left
        · replace a3 := Bool.eq_false_iff.mpr a3
          subst a3
          rw [if_neg (show ¬ (false = true) by decide)] at H
          have H' := zK H
          clear H
          go_wp2
          go_meet
          case rel => exact ⟨_, (false), zR, H', ⟨by have := x.out; have := y.out; have := z.out; have := U2.out; first | omega | exact Nat.le_refl _⟩, ⟨zM l⟩, ⟨zB⟩⟩
        subst a3
        rw [if_pos rfl] at H
        by_cases M1 : ((rd_T122 q a).f1) ≥ 0
        rotate_left
        · rw [if_neg M1] at H
          have l3 := z2 M1
          clear M1
          have H' := zK H
          clear H
          have o3 : wc.cell? ⟨u, 0, none⟩ = some (.int .i64 ((rd_T122 q a).f0)) := zy l 0
          have s3 : wc.cell? ⟨u, 1, none⟩ = some (.int .i64 ((rd_T122 q a).f1)) := zy l 1
          have t3 : wc.cell? ⟨u, 2, none⟩ = some (.int .i64 ((rd_T122 q a).f2)) := zy l 2
          have x3 := zf l.out 0
          have y3 := zf l.out 1
          have A3 := zf l.out 2
          go_wp2
          go_meet
          case rel => exact ⟨_, (false), zR, H', ⟨by have := x.out; have := y.out; have := z.out; have := U2.out; first | omega | exact Nat.le_refl _⟩, ⟨zM l⟩, ⟨zB⟩⟩
        rw [if_pos M1] at H
        have l3 := z1 M1
        clear M1
        by_cases N1 : ((rd_T122 q a).f1) < a
        rotate_left
        · rw [if_neg N1] at H
          have m3 := z2 N1
          clear N1
          have H' := zK H
          clear H
          have B3 : wc.cell? ⟨u, 0, none⟩ = some (.int .i64 ((rd_T122 q a).f0)) := zy l 0
          have C3 : wc.cell? ⟨u, 1, none⟩ = some (.int .i64 ((rd_T122 q a).f1)) := zy l 1
          have D3 : wc.cell? ⟨u, 2, none⟩ = some (.int .i64 ((rd_T122 q a).f2)) := zy l 2
          have E3 := zf l.out 0
          have F3 := zf l.out 1
          have G3 := zf l.out 2
          go_wp2
          go_meet
          case rel => exact ⟨_, (false), zR, H', ⟨by have := x.out; have := y.out; have := z.out; have := U2.out; first | omega | exact Nat.le_refl _⟩, ⟨zM l⟩, ⟨zB⟩⟩
        rw [if_pos N1] at H
        have m3 := z1 N1
        clear N1
        have H' := zK H
        clear H
        have I3 : wc.cell? ⟨u, 0, none⟩ = some (.int .i64 ((rd_T122 q a).f0)) := zy l 0
        have J3 : wc.cell? ⟨u, 1, none⟩ = some (.int .i64 ((rd_T122 q a).f1)) := zy l 1
        have L3 : wc.cell? ⟨u, 2, none⟩ = some (.int .i64 ((rd_T122 q a).f2)) := zy l 2
        have M3 := zf l.out 0
        have N3 := zf l.out 1
        have O3 := zf l.out 2
        go_wp2
        go_meet
        case rel => exact ⟨_, ((((rd_T122 q a).f2) == 0)), zR, H', ⟨by have := x.out; have := y.out; have := z.out; have := U2.out; first | omega | exact Nat.le_refl _⟩, ⟨zM l⟩, ⟨zB⟩⟩
   case rest =>
    clear S3
    try clear c1
    try clear c2
    try clear p2
    try clear c3
    try clear p3
    try clear q3
    try clear e4
    try clear c4
    try clear D
    try clear m0
    try clear c5
    try clear c6
    try clear F2
    try clear c7
    try clear d3
    try clear c8
    try clear f3
    try clear M
    try clear A
    try clear A1
    try clear X
    try clear B1
    try clear a0
    try clear C1
    try clear O
    try clear D1
    try clear E1
    try clear L1
    try clear T
    try clear B
    try clear F1
    try clear U
    try clear G1
    try clear I1
    try clear R1
    try clear s1
    try clear I2
    try clear t1
    try clear J2
    try clear x1
    try clear L2
    try clear e0
    try clear L
    try clear M2
    try clear g0
    try clear N2
    try clear O2
    try clear i0
    try clear R2
    try clear T2
    try clear a3
    try clear M4
    try clear N4
    try clear I4
    try clear M1
    try clear l3
    try clear N1
    try clear m3
    try clear p0 q0 s0 t0 x0 y0
    try clear R0 S0 T0 U0 V0 X0
    try clear I0 J0 L0 M0 N0 O0
    try clear B0 C0 D0 E0 F0 G0
    try clear b1 d1 e1 g1 i1 j1
    try clear l1 m1 n1 o1 p1 q1
    try clear x2 y2 A2 B2 C2 D2
    try clear m2 n2 o2 q2 s2 t2
    try clear b2 d2 e2 g2 i2 l2
    try clear S1 T1 U1 V1 X1 a2
    try clear I3 J3 L3 M3 N3 O3
    try clear B3 C3 D3 E3 F3 G3
    try clear o3 s3 t3 x3 y3 A3
    try clear E
    try clear I
    try clear J
    try clear p2
    try clear p3
    try clear n0
    try clear q3
    try clear o0
    obtain ⟨kq, G2, rfl, HA, f4, l, HB⟩ := hcut
    cases kq with
    | zero => exact absurd HA.out (by simp [impl_codeOk.j4])
    | succ A4 =>
     have H := HA.out
     clear HA
     simp only [impl_codeOk.j4] at H
     by_cases n3 : G2 = true
     rotate_left
     · replace n3 := Bool.eq_false_iff.mpr n3
       subst n3
       rw [if_neg (show ¬ (false = true) by decide)] at H
       obtain rfl := z5 H
       go_wp2
       go_ret
       exact ⟨zE, zB⟩
     subst n3
     rw [if_pos rfl] at H
     have H' := zK H
     clear H
     go_wp2
     go_roundg A4
     case measure => have := x.out; have := y.out; have := f4.out; omega
     case rel => exact ⟨(wrap64 (a + 1)), zR, H', ⟨by have := x.out; have := y.out; have := f4.out; omega⟩, ⟨zB⟩⟩
end Go.Proofs.Ytmcboiffbcnalaa.PFnExactPlanOk
