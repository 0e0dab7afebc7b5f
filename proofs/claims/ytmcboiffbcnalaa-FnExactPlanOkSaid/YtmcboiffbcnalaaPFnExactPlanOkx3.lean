-- Printed out of the translation by this session's own turned copy of a printer; Lean checks it.
import Derived.Test.YtmcboiffbcnalaaPFnExactPlanOkx0
namespace Go.Proofs.Ytmcboiffbcnalaa.PFnExactPlanOk
open Go.RowKit Go.Proofs.YtmcboiffbcnalaaW.PrintWords Go.Proofs.YtmcboiffbcnalaaW.PrintLast Go.Proofs.YtmcboiffbcnalaaW.PrintMore
attribute [local go_sem] max2_int min2_int max_two min_two max_three min_three max_four min_four
set_option linter.unusedVariables false
set_option linter.unusedSimpArgs false
set_option maxHeartbeats 8000000
set_option maxRecDepth 100000
mutual
def spec_l11Code.j0 : Nat → List (S122) → Int → Bool → Option (Bool)
 | 0, _, _, _ => none
 | k + 1, l, q, a => if a = true then (some false) else (spec_l11Code.l0 k l q 0)
def spec_l11Code.l0 : Nat → List (S122) → Int → Int → Option (Bool)
 | 0, _, _, _ => none
 | k + 1, l, q, a => if a < (l.length : Int) then (if 0 ≤ a then (if ((rd_T122 l a).f0) = 1 then (if ((rd_T122 l a).f1) ≥ 0 then (if ((rd_T122 l a).f1) < q then (spec_l11Code.j4 k l q a (((rd_T122 l a).f2) == 0)) else (spec_l11Code.j4 k l q a false)) else (spec_l11Code.j4 k l q a false)) else (if ((rd_T122 l a).f0) = 2 then (if ((rd_T122 l a).f1) ≥ 0 then (if ((rd_T122 l a).f1) < 2147483647 then (spec_l11Code.j4 k l q a (((rd_T122 l a).f2) == 0)) else (spec_l11Code.j4 k l q a false)) else (spec_l11Code.j4 k l q a false)) else (if ((rd_T122 l a).f0) = 3 then (spec_l11Code.j2 k l q a false ((rd_T122 l a).f0) (((rd_T122 l a).f0) == 3) ((rd_T122 l a).f0) ((rd_T122 l a).f1) ((rd_T122 l a).f2)) else (if ((rd_T122 l a).f0) = 4 then (spec_l11Code.j2 k l q a false ((rd_T122 l a).f0) (((rd_T122 l a).f0) == 4) ((rd_T122 l a).f0) ((rd_T122 l a).f1) ((rd_T122 l a).f2)) else (spec_l11Code.j2 k l q a false ((rd_T122 l a).f0) (((rd_T122 l a).f0) == 5) ((rd_T122 l a).f0) ((rd_T122 l a).f1) ((rd_T122 l a).f2)))))) else (none)) else (some true)
def spec_l11Code.j4 : Nat → List (S122) → Int → Int → Bool → Option (Bool)
 | 0, _, _, _, _ => none
 | k + 1, a, l, q, u => if u = true then (spec_l11Code.l0 k a l (wrap64 (q + 1))) else (some false)
def spec_l11Code.j2 : Nat → List (S122) → Int → Int → Bool → Int → Bool → Int → Int → Int → Option (Bool)
 | 0, _, _, _, _, _, _, _, _, _ => none
 | k + 1, y, z, x, A, u, B, q, a, l => if B = true then (if a ≥ 0 then (if a < x then (if l ≥ 0 then (spec_l11Code.j4 k y z x (decide (l < x))) else (spec_l11Code.j4 k y z x false)) else (spec_l11Code.j4 k y z x false)) else (spec_l11Code.j4 k y z x false)) else (if u = 6 then (spec_l11Code.j3 k y z x A (u == 6) q a l) else (if u = 7 then (spec_l11Code.j3 k y z x A (u == 7) q a l) else (if u = 8 then (spec_l11Code.j3 k y z x A (u == 8) q a l) else (spec_l11Code.j3 k y z x A (u == 9) q a l))))
def spec_l11Code.j3 : Nat → List (S122) → Int → Int → Bool → Bool → Int → Int → Int → Option (Bool)
 | 0, _, _, _, _, _, _, _, _ => none
 | k + 1, u, x, q, A, z, y, a, l => if z = true then (if a ≥ 0 then (if a < q then (spec_l11Code.j4 k u x q (l == 0)) else (spec_l11Code.j4 k u x q false)) else (spec_l11Code.j4 k u x q false)) else (spec_l11Code.j4 k u x q A)
end
def spec_l11Code.f (k : Nat) (a : List (S122)) (l : Int) : Option (Bool) := if (a.length : Int) < 1 then (spec_l11Code.j0 k a l true) else (spec_l11Code.j0 k a l (decide ((a.length : Int) > 60)))
theorem spec_l11Code.calls (k) (A0) (c0) (q : List (S122)) (a1) (r : Bool) (w) (m4 : Kd.C k122 w A0 q.length q) (n4 : q.length ≤ c0) (h : spec_l11Code.f k q a1 = some r) :
 Calls Try.prog 61 #[.slice A0 q.length c0, .int .i64 a1] w fun e w' => e = .returned (.bool r) ∧ Below w.heap.size w w' := by
 have J4 := Try.underlying122
 have A4 := zK m4
 have S4 := zK n4
 clear m4 n4
 have HB := zK (Below.refl w.heap.size w)
 have H : (if (q.length : Int) < 1 then (spec_l11Code.j0 k q a1 true) else (spec_l11Code.j0 k q a1 (decide ((q.length : Int) > 60)))) = some r := h
 clear h
 have e4 := zK H
 clear H
 go_enter Try.func61, Try.ntmps61
 go_upto_region 1 with (fail)
 go_cut [15] (fun v15 wc => ∃ (kq : Nat) (L1 : Bool), v15 = .bool L1 ∧ Aside0 (spec_l11Code.j0 kq q a1 L1 = some r) ∧ Aside0 (kq ≤ k) ∧ Aside0 (Below w.heap.size w wc))
 case first =>
  have H := e4.out
  clear e4
  by_cases c4 : (q.length : Int) < 1
  · rw [if_pos c4] at H
    have D := z1 c4
    have o0 : decide (q.length < 1) = true := z1 (by omega)
    clear c4
    (first | rw [D] | (simp only [i64_w, i32_w]; rw [D]) | skip)
    have H' := zK H
    clear H
    go_wp2
    go_meet
    case rel => exact ⟨_, (true), zR, H', ⟨by first | omega | exact Nat.le_refl _⟩, ⟨zB⟩⟩
  rw [if_neg c4] at H
  have D := z2 c4
  have o0 : decide (q.length < 1) = false := z2 (by omega)
  clear c4
  (first | rw [D] | (simp only [i64_w, i32_w]; rw [D]) | skip)
  have H' := zK H
  clear H
  go_wp2
  go_meet
  case rel => exact ⟨_, (decide ((q.length : Int) > 60)), zR, H', ⟨by first | omega | exact Nat.le_refl _⟩, ⟨zB⟩⟩
 case rest =>
  clear e4
  try clear p2
  try clear c4
  try clear D
  try clear o0
  obtain ⟨kq, L1, rfl, HA, x, HB⟩ := hcut
  cases kq with
  | zero => exact absurd HA.out (by simp [spec_l11Code.j0])
  | succ o4 =>
   have H := HA.out
   clear HA
   simp only [spec_l11Code.j0] at H
   by_cases c5 : L1 = true
   · subst c5
     rw [if_pos rfl] at H
     obtain rfl := z5 H
     go_wp2
     go_ret
     exact ⟨zE, zB⟩
   replace c5 := Bool.eq_false_iff.mpr c5
   subst c5
   rw [if_neg (show ¬ (false = true) by decide)] at H
   have H' := zK H
   clear H
   go_wp2
   go_loopg [5] o4 (fun kq v5 w' => ∃ (l : Int), v5 = .int .i64 l ∧ Aside0 (spec_l11Code.l0 kq q a1 l = some r) ∧ Aside0 (kq ≤ o4) ∧ Aside0 (Below w.heap.size w w'))
   case atStart => exact ⟨(0), zR, H', ⟨Nat.le_refl _⟩, ⟨zB⟩⟩
   clear H'
   try clear p2
   try clear c4
   try clear D
   try clear o0
   try clear c5
   try clear p2
   obtain ⟨l, rfl, HA, y, HB⟩ := hrel
   rcases gk with _ | k2
   · exact absurd HA.out (by simp [spec_l11Code.l0])
   have H := HA.out
   clear HA
   simp only [spec_l11Code.l0] at H
   by_cases c6 : l < (q.length : Int)
   rotate_left
   · rw [if_neg c6] at H
     have V2 := z2 c6
     clear c6
     obtain rfl := z5 H
     go_wp2
     go_ret
     exact ⟨zE, zB⟩
   rw [if_pos c6] at H
   have V2 := z1 c6
   clear c6
   by_cases c7 : 0 ≤ l
   rotate_left
   · rw [if_neg c7] at H
     exact absurd H (by simp)
   rw [if_pos c7] at H
   have s3 := z1 c7
   clear c7
   have f4 := zK H
   clear H
   have p0 : 0 ≤ (l : Int) := z3
   have q0 : l < (q.length : Int) := z3
   obtain ⟨L4, s4, E, I, J⟩ := at_T122 A4.out l p0 q0
   cases s4
   (try replace E := zX HB E)
   (try replace I := zX HB I)
   (try replace J := zX HB J)
   replace p0 := eq_true p0
   replace q0 := eq_true q0
   go_upto_block 2 with (first | ((with_reducible refine gd 6 rfl ?_); (try (refine gate_guard (by rfl) ?_; dsimp only)); refine zJ 6 #[.int .i64 0, .int .i64 0, .int .i64 0] 122 ?_; intro u hg w9 hbox hb; have B4 := z8 hb; have C4 := zK (hbox); have D4 := z9 hg; have E4 := z9 hg; revert B4 C4 D4 E4; clear HB; intro HB a M4 N4; clear hb hbox hg; obtain ⟨s0, t0, x0, y0, B0, C0⟩ := zc3 a))
   (try simp only [Act.put, zq1, zq2, zq3])
   go_cut [7] (fun v7 wc => ∃ (kq : Nat) (X2 : Bool), v7 = .bool X2 ∧ Aside0 (spec_l11Code.j4 kq q a1 l X2 = some r) ∧ Aside0 (kq ≤ k2) ∧ Aside0 (wc.heap[u]? = some (.cells #[.int .i64 ((rd_T122 q l).f0), .int .i64 ((rd_T122 q l).f1), .int .i64 ((rd_T122 q l).f2)] 122 (0, 0))) ∧ Aside0 (Below w.heap.size w wc))
   case first =>
    have H := f4.out
    clear f4
    by_cases M : ((rd_T122 q l).f0) = 1
    · rw [if_pos M] at H
      have A := beq_iff_eq.mpr M
      have M1 := bne_eq_false_iff_eq.mpr M
      clear M
      (first | rw [A] | (simp only [i64_w, i32_w]; rw [A]) | skip)
      by_cases X : ((rd_T122 q l).f1) ≥ 0
      rotate_left
      · rw [if_neg X] at H
        have N1 := z2 X
        clear X
        have H' := zK H
        clear H
        obtain ⟨D0, E0, F0, G0, I0, J0⟩ := zc3 a
        go_wp2
        go_meet
        case rel => exact ⟨_, (false), zR, H', ⟨by have := x.out; have := y.out; first | omega | exact Nat.le_refl _⟩, ⟨zW a⟩, ⟨zB⟩⟩
      rw [if_pos X] at H
      have N1 := z1 X
      clear X
      by_cases a0 : ((rd_T122 q l).f1) < a1
      rotate_left
      · rw [if_neg a0] at H
        have O1 := z2 a0
        clear a0
        have H' := zK H
        clear H
        obtain ⟨L0, M0, N0, O0, R0, S0⟩ := zc3 a
        go_wp2
        go_meet
        case rel => exact ⟨_, (false), zR, H', ⟨by have := x.out; have := y.out; first | omega | exact Nat.le_refl _⟩, ⟨zW a⟩, ⟨zB⟩⟩
      rw [if_pos a0] at H
      have O1 := z1 a0
      clear a0
      have H' := zK H
      clear H
      obtain ⟨T0, U0, V0, X0, b1, d1⟩ := zc3 a
      go_wp2
      go_meet
      case rel => exact ⟨_, ((((rd_T122 q l).f2) == 0)), zR, H', ⟨by have := x.out; have := y.out; first | omega | exact Nat.le_refl _⟩, ⟨zW a⟩, ⟨zB⟩⟩
    rw [if_neg M] at H
    have A := beq_eq_false_iff_ne.mpr M
    have M1 := bne_iff_ne.mpr M
    (first | rw [A] | (simp only [i64_w, i32_w]; rw [A]) | skip)
    by_cases O : ((rd_T122 q l).f0) = 2
    · rw [if_pos O] at H
      have R1 := beq_iff_eq.mpr O
      have S1 := bne_eq_false_iff_eq.mpr O
      clear O
      by_cases b0 : ((rd_T122 q l).f1) ≥ 0
      rotate_left
      · rw [if_neg b0] at H
        have T1 := z2 b0
        clear b0
        have H' := zK H
        clear H
        obtain ⟨e1, g1, i1, j1, l1, m1⟩ := zc3 a
        go_wp2
        go_meet
        case rel => exact ⟨_, (false), zR, H', ⟨by have := x.out; have := y.out; first | omega | exact Nat.le_refl _⟩, ⟨zW a⟩, ⟨zB⟩⟩
      rw [if_pos b0] at H
      have T1 := z1 b0
      clear b0
      by_cases d0 : ((rd_T122 q l).f1) < 2147483647
      rotate_left
      · rw [if_neg d0] at H
        have U1 := z2 d0
        clear d0
        have H' := zK H
        clear H
        obtain ⟨n1, o1, s1, t1, x1, y1⟩ := zc3 a
        go_wp2
        go_meet
        case rel => exact ⟨_, (false), zR, H', ⟨by have := x.out; have := y.out; first | omega | exact Nat.le_refl _⟩, ⟨zW a⟩, ⟨zB⟩⟩
      rw [if_pos d0] at H
      have U1 := z1 d0
      clear d0
      have H' := zK H
      clear H
      obtain ⟨A1, B1, C1, D1, E1, F1⟩ := zc3 a
      go_wp2
      go_meet
      case rel => exact ⟨_, ((((rd_T122 q l).f2) == 0)), zR, H', ⟨by have := x.out; have := y.out; first | omega | exact Nat.le_refl _⟩, ⟨zW a⟩, ⟨zB⟩⟩
    rw [if_neg O] at H
    have R1 := beq_eq_false_iff_ne.mpr O
    have S1 := bne_iff_ne.mpr O
    have t3 := zK H
    clear H
    go_upto_if 59 with (fail)
    go_cut [59] (fun v59 wc => ∃ (kq : Nat) (e0 : Bool), v59 = .bool e0 ∧ Aside0 (spec_l11Code.j2 kq q a1 l false ((rd_T122 q l).f0) e0 ((rd_T122 q l).f0) ((rd_T122 q l).f1) ((rd_T122 q l).f2) = some r) ∧ Aside0 (kq ≤ k2) ∧ Aside0 (wc.heap[u]? = some (.cells #[.int .i64 ((rd_T122 q l).f0), .int .i64 ((rd_T122 q l).f1), .int .i64 ((rd_T122 q l).f2)] 122 (0, 0))) ∧ Aside0 (Below w.heap.size w wc))
    case first =>
     have H := t3.out
     clear t3
     by_cases T : ((rd_T122 q l).f0) = 3
     · rw [if_pos T] at H
       have B := beq_iff_eq.mpr T
       have V1 := bne_eq_false_iff_eq.mpr T
       clear T
       (first | rw [B] | (simp only [i64_w, i32_w]; rw [B]) | skip)
       have H' := zK H
       clear H
       go_wp2
       go_meet
       case rel => exact ⟨_, ((((rd_T122 q l).f0) == 3)), zR, H', ⟨by have := x.out; have := y.out; first | omega | exact Nat.le_refl _⟩, ⟨zW a⟩, ⟨zB⟩⟩
     rw [if_neg T] at H
     have B := beq_eq_false_iff_ne.mpr T
     have V1 := bne_iff_ne.mpr T
     (first | rw [B] | (simp only [i64_w, i32_w]; rw [B]) | skip)
     by_cases U : ((rd_T122 q l).f0) = 4
     rotate_left
     · rw [if_neg U] at H
       have X1 := beq_eq_false_iff_ne.mpr U
       have a2 := bne_iff_ne.mpr U
       have H' := zK H
       clear H
       go_wp2
       go_meet
       case rel => exact ⟨_, ((((rd_T122 q l).f0) == 5)), zR, H', ⟨by have := x.out; have := y.out; first | omega | exact Nat.le_refl _⟩, ⟨zW a⟩, ⟨zB⟩⟩
     rw [if_pos U] at H
     have X1 := beq_iff_eq.mpr U
     have a2 := bne_eq_false_iff_eq.mpr U
     clear U
     have H' := zK H
     clear H
     go_wp2
     go_meet
     case rel => exact ⟨_, ((((rd_T122 q l).f0) == 4)), zR, H', ⟨by have := x.out; have := y.out; first | omega | exact Nat.le_refl _⟩, ⟨zW a⟩, ⟨zB⟩⟩
    case rest =>
     clear t3
     try clear c1
     try clear p1
     try clear q1
     try clear p4
     try clear c2
     try clear p2
     try clear c4
     try clear D
     try clear o0
     try clear c5
     try clear c6
     try clear V2
     try clear c7
     try clear s3
     try clear M
     try clear A
     try clear M1
     try clear X
     try clear N1
     try clear a0
     try clear O1
     try clear y3
     try clear A3
     try clear g4
     try clear O
     try clear R1
     try clear S1
     try clear b0
     try clear T1
     try clear d0
     try clear U1
     try clear T
     try clear B
     try clear V1
     try clear U
     try clear X1
     try clear a2
     try clear s0 t0 x0 y0 B0 C0
     try clear T0 U0 V0 X0 b1 d1
     try clear L0 M0 N0 O0 R0 S0
     try clear D0 E0 F0 G0 I0 J0
     try clear A1 B1 C1 D1 E1 F1
     try clear n1 o1 s1 t1 x1 y1
     try clear e1 g1 i1 j1 l1 m1
     try clear E
     try clear I
     try clear J
     try clear p0
     try clear p2
     try clear q0
     obtain ⟨kq, e0, rfl, HA, z, a, HB⟩ := hcut
     cases kq with
     | zero => exact absurd HA.out (by simp [spec_l11Code.j2])
     | succ t4 =>
      have H := HA.out
      clear HA
      simp only [spec_l11Code.j2] at H
      by_cases i2 : e0 = true
      · subst i2
        rw [if_pos rfl] at H
        by_cases G1 : ((rd_T122 q l).f1) ≥ 0
        rotate_left
        · rw [if_neg G1] at H
          have a3 := z2 G1
          clear G1
          have H' := zK H
          clear H
          have l2 : wc.cell? ⟨u, 0, none⟩ = some (.int .i64 ((rd_T122 q l).f0)) := zy a 0
          have m2 : wc.cell? ⟨u, 1, none⟩ = some (.int .i64 ((rd_T122 q l).f1)) := zy a 1
          have n2 : wc.cell? ⟨u, 2, none⟩ = some (.int .i64 ((rd_T122 q l).f2)) := zy a 2
          have o2 := zf a.out 0
          have q2 := zf a.out 1
          have s2 := zf a.out 2
          go_wp2
          go_meet
          case rel => exact ⟨_, (false), zR, H', ⟨by have := x.out; have := y.out; have := z.out; first | omega | exact Nat.le_refl _⟩, ⟨zM a⟩, ⟨zB⟩⟩
        rw [if_pos G1] at H
        have a3 := z1 G1
        clear G1
        by_cases I1 : ((rd_T122 q l).f1) < l
        rotate_left
        · rw [if_neg I1] at H
          have b3 := z2 I1
          clear I1
          have H' := zK H
          clear H
          have t2 : wc.cell? ⟨u, 0, none⟩ = some (.int .i64 ((rd_T122 q l).f0)) := zy a 0
          have x2 : wc.cell? ⟨u, 1, none⟩ = some (.int .i64 ((rd_T122 q l).f1)) := zy a 1
          have y2 : wc.cell? ⟨u, 2, none⟩ = some (.int .i64 ((rd_T122 q l).f2)) := zy a 2
          have A2 := zf a.out 0
          have B2 := zf a.out 1
          have C2 := zf a.out 2
          go_wp2
          go_meet
          case rel => exact ⟨_, (false), zR, H', ⟨by have := x.out; have := y.out; have := z.out; first | omega | exact Nat.le_refl _⟩, ⟨zM a⟩, ⟨zB⟩⟩
        rw [if_pos I1] at H
        have b3 := z1 I1
        clear I1
        by_cases J1 : ((rd_T122 q l).f2) ≥ 0
        rotate_left
        · rw [if_neg J1] at H
          have d3 := z2 J1
          clear J1
          have H' := zK H
          clear H
          have D2 : wc.cell? ⟨u, 0, none⟩ = some (.int .i64 ((rd_T122 q l).f0)) := zy a 0
          have E2 : wc.cell? ⟨u, 1, none⟩ = some (.int .i64 ((rd_T122 q l).f1)) := zy a 1
          have F2 : wc.cell? ⟨u, 2, none⟩ = some (.int .i64 ((rd_T122 q l).f2)) := zy a 2
          have G2 := zf a.out 0
          have I2 := zf a.out 1
          have J2 := zf a.out 2
          go_wp2
          go_meet
          case rel => exact ⟨_, (false), zR, H', ⟨by have := x.out; have := y.out; have := z.out; first | omega | exact Nat.le_refl _⟩, ⟨zM a⟩, ⟨zB⟩⟩
        rw [if_pos J1] at H
        have d3 := z1 J1
        clear J1
        have H' := zK H
        clear H
        have L2 : wc.cell? ⟨u, 0, none⟩ = some (.int .i64 ((rd_T122 q l).f0)) := zy a 0
        have M2 : wc.cell? ⟨u, 1, none⟩ = some (.int .i64 ((rd_T122 q l).f1)) := zy a 1
        have N2 : wc.cell? ⟨u, 2, none⟩ = some (.int .i64 ((rd_T122 q l).f2)) := zy a 2
        have O2 := zf a.out 0
        have R2 := zf a.out 1
        have T2 := zf a.out 2
        go_wp2
        go_meet
        case rel => exact ⟨_, (decide (((rd_T122 q l).f2) < l)), zR, H', ⟨by have := x.out; have := y.out; have := z.out; first | omega | exact Nat.le_refl _⟩, ⟨zM a⟩, ⟨zB⟩⟩
      replace i2 := Bool.eq_false_iff.mpr i2
      subst i2
      rw [if_neg (show ¬ (false = true) by decide)] at H
      have x3 := zK H
      clear H
      go_upto_if 83 with (fail)
      go_cut [83] (fun v83 wc => ∃ (kq : Nat) (g0 : Bool), v83 = .bool g0 ∧ Aside0 (spec_l11Code.j3 kq q a1 l false g0 ((rd_T122 q l).f0) ((rd_T122 q l).f1) ((rd_T122 q l).f2) = some r) ∧ Aside0 (kq ≤ t4) ∧ Aside0 (wc.heap[u]? = some (.cells #[.int .i64 ((rd_T122 q l).f0), .int .i64 ((rd_T122 q l).f1), .int .i64 ((rd_T122 q l).f2)] 122 (0, 0))) ∧ Aside0 (Below w.heap.size w wc))
      case first =>
       have H := x3.out
       clear x3
       by_cases i0 : ((rd_T122 q l).f0) = 6
       · rw [if_pos i0] at H
         have L := beq_iff_eq.mpr i0
         have e3 := bne_eq_false_iff_eq.mpr i0
         clear i0
         (first | rw [L] | (simp only [i64_w, i32_w]; rw [L]) | skip)
         have H' := zK H
         clear H
         go_wp2
         go_meet
         case rel => exact ⟨_, ((((rd_T122 q l).f0) == 6)), zR, H', ⟨by have := x.out; have := y.out; have := z.out; first | omega | exact Nat.le_refl _⟩, ⟨zM a⟩, ⟨zB⟩⟩
       rw [if_neg i0] at H
       have L := beq_eq_false_iff_ne.mpr i0
       have e3 := bne_iff_ne.mpr i0
       (first | rw [L] | (simp only [i64_w, i32_w]; rw [L]) | skip)
       by_cases m0 : ((rd_T122 q l).f0) = 7
       · rw [if_pos m0] at H
         have f3 := beq_iff_eq.mpr m0
         have g3 := bne_eq_false_iff_eq.mpr m0
         clear m0
         have H' := zK H
         clear H
         go_wp2
         go_meet
         case rel => exact ⟨_, ((((rd_T122 q l).f0) == 7)), zR, H', ⟨by have := x.out; have := y.out; have := z.out; first | omega | exact Nat.le_refl _⟩, ⟨zM a⟩, ⟨zB⟩⟩
       rw [if_neg m0] at H
       have f3 := beq_eq_false_iff_ne.mpr m0
       have g3 := bne_iff_ne.mpr m0
       by_cases n0 : ((rd_T122 q l).f0) = 8
       rotate_left
       · rw [if_neg n0] at H
         have i3 := beq_eq_false_iff_ne.mpr n0
         have l3 := bne_iff_ne.mpr n0
         have H' := zK H
         clear H
         go_wp2
         go_meet
         case rel => exact ⟨_, ((((rd_T122 q l).f0) == 9)), zR, H', ⟨by have := x.out; have := y.out; have := z.out; first | omega | exact Nat.le_refl _⟩, ⟨zM a⟩, ⟨zB⟩⟩
       rw [if_pos n0] at H
       have i3 := beq_iff_eq.mpr n0
       have l3 := bne_eq_false_iff_eq.mpr n0
       clear n0
       have H' := zK H
       clear H
       go_wp2
       go_meet
       case rel => exact ⟨_, ((((rd_T122 q l).f0) == 8)), zR, H', ⟨by have := x.out; have := y.out; have := z.out; first | omega | exact Nat.le_refl _⟩, ⟨zM a⟩, ⟨zB⟩⟩
      case rest =>
       clear x3
       try clear c1
       try clear p1
       try clear q1
       try clear p4
       try clear c2
       try clear p2
       try clear c3
       try clear c4
       try clear D
       try clear o0
       try clear c5
       try clear c6
       try clear V2
       try clear c7
       try clear s3
       try clear M
       try clear A
       try clear M1
       try clear X
       try clear N1
       try clear a0
       try clear O1
       try clear y3
       try clear A3
       try clear g4
       try clear O
       try clear R1
       try clear S1
       try clear b0
       try clear T1
       try clear d0
       try clear U1
       try clear T
       try clear B
       try clear V1
       try clear U
       try clear X1
       try clear a2
       try clear i2
       try clear G1
       try clear a3
       try clear I1
       try clear b3
       try clear J1
       try clear d3
       try clear i0
       try clear L
       try clear e3
       try clear m0
       try clear f3
       try clear g3
       try clear n0
       try clear i3
       try clear l3
       try clear s0 t0 x0 y0 B0 C0
       try clear T0 U0 V0 X0 b1 d1
       try clear L0 M0 N0 O0 R0 S0
       try clear D0 E0 F0 G0 I0 J0
       try clear A1 B1 C1 D1 E1 F1
       try clear n1 o1 s1 t1 x1 y1
       try clear e1 g1 i1 j1 l1 m1
       try clear L2 M2 N2 O2 R2 T2
       try clear D2 E2 F2 G2 I2 J2
       try clear t2 x2 y2 A2 B2 C2
       try clear l2 m2 n2 o2 q2 s2
       try clear E
       try clear I
       try clear J
       try clear p1
       try clear y3
       try clear p0
       try clear p2
       try clear q1
       try clear A3
       try clear q0
       obtain ⟨kq, g0, rfl, HA, m3, a, HB⟩ := hcut
       cases kq with
       | zero => exact absurd HA.out (by simp [spec_l11Code.j3])
       | succ R4 =>
        have H := HA.out
        clear HA
        simp only [spec_l11Code.j3] at H
        by_cases p3 : g0 = true
        rotate_left
        · replace p3 := Bool.eq_false_iff.mpr p3
          subst p3
          rw [if_neg (show ¬ (false = true) by decide)] at H
          have H' := zK H
          clear H
          go_wp2
          go_meet
          case rel => exact ⟨_, (false), zR, H', ⟨by have := x.out; have := y.out; have := z.out; have := m3.out; first | omega | exact Nat.le_refl _⟩, ⟨zM a⟩, ⟨zB⟩⟩
        subst p3
        rw [if_pos rfl] at H
        by_cases d2 : ((rd_T122 q l).f1) ≥ 0
        rotate_left
        · rw [if_neg d2] at H
          have B3 := z2 d2
          clear d2
          have H' := zK H
          clear H
          have E3 : wc.cell? ⟨u, 0, none⟩ = some (.int .i64 ((rd_T122 q l).f0)) := zy a 0
          have F3 : wc.cell? ⟨u, 1, none⟩ = some (.int .i64 ((rd_T122 q l).f1)) := zy a 1
          have G3 : wc.cell? ⟨u, 2, none⟩ = some (.int .i64 ((rd_T122 q l).f2)) := zy a 2
          have I3 := zf a.out 0
          have J3 := zf a.out 1
          have L3 := zf a.out 2
          go_wp2
          go_meet
          case rel => exact ⟨_, (false), zR, H', ⟨by have := x.out; have := y.out; have := z.out; have := m3.out; first | omega | exact Nat.le_refl _⟩, ⟨zM a⟩, ⟨zB⟩⟩
        rw [if_pos d2] at H
        have B3 := z1 d2
        clear d2
        by_cases e2 : ((rd_T122 q l).f1) < l
        rotate_left
        · rw [if_neg e2] at H
          have C3 := z2 e2
          clear e2
          have H' := zK H
          clear H
          have M3 : wc.cell? ⟨u, 0, none⟩ = some (.int .i64 ((rd_T122 q l).f0)) := zy a 0
          have N3 : wc.cell? ⟨u, 1, none⟩ = some (.int .i64 ((rd_T122 q l).f1)) := zy a 1
          have O3 : wc.cell? ⟨u, 2, none⟩ = some (.int .i64 ((rd_T122 q l).f2)) := zy a 2
          have R3 := zf a.out 0
          have S3 := zf a.out 1
          have T3 := zf a.out 2
          go_wp2
          go_meet
          case rel => exact ⟨_, (false), zR, H', ⟨by have := x.out; have := y.out; have := z.out; have := m3.out; first | omega | exact Nat.le_refl _⟩, ⟨zM a⟩, ⟨zB⟩⟩
        rw [if_pos e2] at H
        have C3 := z1 e2
        clear e2
        have H' := zK H
        clear H
        have U3 : wc.cell? ⟨u, 0, none⟩ = some (.int .i64 ((rd_T122 q l).f0)) := zy a 0
        have V3 : wc.cell? ⟨u, 1, none⟩ = some (.int .i64 ((rd_T122 q l).f1)) := zy a 1
        have X3 : wc.cell? ⟨u, 2, none⟩ = some (.int .i64 ((rd_T122 q l).f2)) := zy a 2
        have a4 := zf a.out 0
        have b4 := zf a.out 1
        have d4 := zf a.out 2
        go_wp2
        go_meet
        case rel => exact ⟨_, ((((rd_T122 q l).f2) == 0)), zR, H', ⟨by have := x.out; have := y.out; have := z.out; have := m3.out; first | omega | exact Nat.le_refl _⟩, ⟨zM a⟩, ⟨zB⟩⟩
   case rest =>
    clear f4
    try clear c1
    try clear p1
    try clear q1
    try clear p4
    try clear c2
    try clear p2
    try clear c3
    try clear c4
    try clear D
    try clear o0
    try clear c5
    try clear c6
    try clear V2
    try clear c7
    try clear s3
    try clear M
    try clear A
    try clear M1
    try clear X
    try clear N1
    try clear a0
    try clear O1
    try clear y3
    try clear A3
    try clear g4
    try clear O
    try clear R1
    try clear S1
    try clear b0
    try clear T1
    try clear d0
    try clear U1
    try clear T
    try clear B
    try clear V1
    try clear U
    try clear X1
    try clear a2
    try clear i2
    try clear G1
    try clear a3
    try clear I1
    try clear b3
    try clear J1
    try clear d3
    try clear i0
    try clear L
    try clear e3
    try clear m0
    try clear f3
    try clear g3
    try clear n0
    try clear i3
    try clear l3
    try clear p3
    try clear d2
    try clear B3
    try clear e2
    try clear C3
    try clear s0 t0 x0 y0 B0 C0
    try clear T0 U0 V0 X0 b1 d1
    try clear L0 M0 N0 O0 R0 S0
    try clear D0 E0 F0 G0 I0 J0
    try clear A1 B1 C1 D1 E1 F1
    try clear n1 o1 s1 t1 x1 y1
    try clear e1 g1 i1 j1 l1 m1
    try clear L2 M2 N2 O2 R2 T2
    try clear D2 E2 F2 G2 I2 J2
    try clear t2 x2 y2 A2 B2 C2
    try clear l2 m2 n2 o2 q2 s2
    try clear U3 V3 X3 a4 b4 d4
    try clear M3 N3 O3 R3 S3 T3
    try clear E3 F3 G3 I3 J3 L3
    try clear E
    try clear I
    try clear J
    try clear p1
    try clear y3
    try clear p0
    try clear p2
    try clear q1
    try clear A3
    try clear q0
    obtain ⟨kq, X2, rfl, HA, q4, a, HB⟩ := hcut
    cases kq with
    | zero => exact absurd HA.out (by simp [spec_l11Code.j4])
    | succ I4 =>
     have H := HA.out
     clear HA
     simp only [spec_l11Code.j4] at H
     by_cases D3 : X2 = true
     rotate_left
     · replace D3 := Bool.eq_false_iff.mpr D3
       subst D3
       rw [if_neg (show ¬ (false = true) by decide)] at H
       obtain rfl := z5 H
       go_wp2
       go_ret
       exact ⟨zE, zB⟩
     subst D3
     rw [if_pos rfl] at H
     have H' := zK H
     clear H
     go_wp2
     go_roundg I4
     case measure => have := x.out; have := y.out; have := q4.out; omega
     case rel => exact ⟨(wrap64 (l + 1)), zR, H', ⟨by have := x.out; have := y.out; have := q4.out; omega⟩, ⟨zB⟩⟩
end Go.Proofs.Ytmcboiffbcnalaa.PFnExactPlanOk
