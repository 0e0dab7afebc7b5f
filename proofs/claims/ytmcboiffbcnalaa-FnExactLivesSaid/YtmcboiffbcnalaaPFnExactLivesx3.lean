-- Printed out of the translation by this session's own turned copy of a printer; Lean checks it.
import Derived.Test.YtmcboiffbcnalaaPFnExactLivesx0
namespace Go.Proofs.Ytmcboiffbcnalaa.PFnExactLives
open Go.RowKit Go.Proofs.YtmcboiffbcnalaaW.PrintWords Go.Proofs.YtmcboiffbcnalaaW.PrintLast Go.Proofs.YtmcboiffbcnalaaW.PrintMore
attribute [local go_sem] max2_int min2_int max_two min_two max_three min_three max_four min_four
set_option linter.unusedVariables false
set_option linter.unusedSimpArgs false
set_option maxHeartbeats 8000000
set_option maxRecDepth 100000
mutual
def spec_l11Code.j0 : Nat → List (S122) → Int → Bool → Option (Bool)
 | 0, _, _, _ => none
 | k + 1, q, u, l => if l = true then (some false) else (spec_l11Code.l0 k q u 0)
def spec_l11Code.l0 : Nat → List (S122) → Int → Int → Option (Bool)
 | 0, _, _, _ => none
 | k + 1, q, u, l => if l < (q.length : Int) then (if 0 ≤ l then (if ((rd_T122 q l).f0) = 1 then (if ((rd_T122 q l).f1) ≥ 0 then (if ((rd_T122 q l).f1) < u then (spec_l11Code.j4 k q u l (((rd_T122 q l).f2) == 0)) else (spec_l11Code.j4 k q u l false)) else (spec_l11Code.j4 k q u l false)) else (if ((rd_T122 q l).f0) = 2 then (if ((rd_T122 q l).f1) ≥ 0 then (if ((rd_T122 q l).f1) < 2147483647 then (spec_l11Code.j4 k q u l (((rd_T122 q l).f2) == 0)) else (spec_l11Code.j4 k q u l false)) else (spec_l11Code.j4 k q u l false)) else (if ((rd_T122 q l).f0) = 3 then (spec_l11Code.j2 k q u l false ((rd_T122 q l).f0) (((rd_T122 q l).f0) == 3) ((rd_T122 q l).f0) ((rd_T122 q l).f1) ((rd_T122 q l).f2)) else (if ((rd_T122 q l).f0) = 4 then (spec_l11Code.j2 k q u l false ((rd_T122 q l).f0) (((rd_T122 q l).f0) == 4) ((rd_T122 q l).f0) ((rd_T122 q l).f1) ((rd_T122 q l).f2)) else (spec_l11Code.j2 k q u l false ((rd_T122 q l).f0) (((rd_T122 q l).f0) == 5) ((rd_T122 q l).f0) ((rd_T122 q l).f1) ((rd_T122 q l).f2)))))) else (none)) else (some true)
def spec_l11Code.j4 : Nat → List (S122) → Int → Int → Bool → Option (Bool)
 | 0, _, _, _, _ => none
 | k + 1, l, q, u, y => if y = true then (spec_l11Code.l0 k l q (wrap64 (u + 1))) else (some false)
def spec_l11Code.j2 : Nat → List (S122) → Int → Int → Bool → Int → Bool → Int → Int → Int → Option (Bool)
 | 0, _, _, _, _, _, _, _, _, _ => none
 | k + 1, A, B, z, E, y, I, u, l, q => if I = true then (if l ≥ 0 then (if l < z then (if q ≥ 0 then (spec_l11Code.j4 k A B z (decide (q < z))) else (spec_l11Code.j4 k A B z false)) else (spec_l11Code.j4 k A B z false)) else (spec_l11Code.j4 k A B z false)) else (if y = 6 then (spec_l11Code.j3 k A B z E (y == 6) u l q) else (if y = 7 then (spec_l11Code.j3 k A B z E (y == 7) u l q) else (if y = 8 then (spec_l11Code.j3 k A B z E (y == 8) u l q) else (spec_l11Code.j3 k A B z E (y == 9) u l q))))
def spec_l11Code.j3 : Nat → List (S122) → Int → Int → Bool → Bool → Int → Int → Int → Option (Bool)
 | 0, _, _, _, _, _, _, _, _ => none
 | k + 1, y, z, u, E, B, A, l, q => if B = true then (if l ≥ 0 then (if l < u then (spec_l11Code.j4 k y z u (q == 0)) else (spec_l11Code.j4 k y z u false)) else (spec_l11Code.j4 k y z u false)) else (spec_l11Code.j4 k y z u E)
end
def spec_l11Code.f (k : Nat) (l : List (S122)) (q : Int) : Option (Bool) := if (l.length : Int) < 1 then (spec_l11Code.j0 k l q true) else (spec_l11Code.j0 k l q (decide ((l.length : Int) > 60)))
theorem spec_l11Code.calls (k) (A0) (c0) (u : List (S122)) (a1) (r : Bool) (w) (p4 : Kd.C k122 w A0 u.length u) (q4 : u.length ≤ c0) (h : spec_l11Code.f k u a1 = some r) :
 Calls Try.prog 61 #[.slice A0 u.length c0, .int .i64 a1] w fun e w' => e = .returned (.bool r) ∧ Below w.heap.size w w' := by
 have N4 := Try.underlying122
 have D4 := zK p4
 have V4 := zK q4
 clear p4 q4
 have HB := zK (Below.refl w.heap.size w)
 have H : (if (u.length : Int) < 1 then (spec_l11Code.j0 k u a1 true) else (spec_l11Code.j0 k u a1 (decide ((u.length : Int) > 60)))) = some r := h
 clear h
 have i4 := zK H
 clear H
 go_enter Try.func61, Try.ntmps61
 go_upto_region 1 with (fail)
 go_cut [15] (fun v15 wc => ∃ (kq : Nat) (O1 : Bool), v15 = .bool O1 ∧ Aside0 (spec_l11Code.j0 kq u a1 O1 = some r) ∧ Aside0 (kq ≤ k) ∧ Aside0 (Below w.heap.size w wc))
 case first =>
  have H := i4.out
  clear i4
  by_cases c4 : (u.length : Int) < 1
  · rw [if_pos c4] at H
    have J := z1 c4
    have s0 : decide (u.length < 1) = true := z1 (by omega)
    clear c4
    (first | rw [J] | (simp only [i64_w, i32_w]; rw [J]) | skip)
    have H' := zK H
    clear H
    go_wp2
    go_meet
    case rel => exact ⟨_, (true), zR, H', ⟨by first | omega | exact Nat.le_refl _⟩, ⟨zB⟩⟩
  rw [if_neg c4] at H
  have J := z2 c4
  have s0 : decide (u.length < 1) = false := z2 (by omega)
  clear c4
  (first | rw [J] | (simp only [i64_w, i32_w]; rw [J]) | skip)
  have H' := zK H
  clear H
  go_wp2
  go_meet
  case rel => exact ⟨_, (decide ((u.length : Int) > 60)), zR, H', ⟨by first | omega | exact Nat.le_refl _⟩, ⟨zB⟩⟩
 case rest =>
  clear i4
  try clear p2
  try clear c4
  try clear J
  try clear s0
  obtain ⟨kq, O1, rfl, HA, z, HB⟩ := hcut
  cases kq with
  | zero => exact absurd HA.out (by simp [spec_l11Code.j0])
  | succ s4 =>
   have H := HA.out
   clear HA
   simp only [spec_l11Code.j0] at H
   by_cases c5 : O1 = true
   · subst c5
     rw [if_pos rfl] at H
     obtain rfl := z5 H
     go_wp2
     go_ret
     exact ⟨zE, zB⟩
   replace c5 := Bool.eq_false_iff.mpr c5
   subst c5
   rw [if_neg (show ¬ (false = true) by decide)] at H
   have H' := zK H
   clear H
   go_wp2
   go_loopg [5] s4 (fun kq v5 w' => ∃ (q : Int), v5 = .int .i64 q ∧ Aside0 (spec_l11Code.l0 kq u a1 q = some r) ∧ Aside0 (kq ≤ s4) ∧ Aside0 (Below w.heap.size w w'))
   case atStart => exact ⟨(0), zR, H', ⟨Nat.le_refl _⟩, ⟨zB⟩⟩
   clear H'
   try clear p2
   try clear c4
   try clear J
   try clear s0
   try clear c5
   try clear p2
   obtain ⟨q, rfl, HA, A, HB⟩ := hrel
   rcases gk with _ | k2
   · exact absurd HA.out (by simp [spec_l11Code.l0])
   have H := HA.out
   clear HA
   simp only [spec_l11Code.l0] at H
   by_cases c6 : q < (u.length : Int)
   rotate_left
   · rw [if_neg c6] at H
     have b3 := z2 c6
     clear c6
     obtain rfl := z5 H
     go_wp2
     go_ret
     exact ⟨zE, zB⟩
   rw [if_pos c6] at H
   have b3 := z1 c6
   clear c6
   by_cases c7 : 0 ≤ q
   rotate_left
   · rw [if_neg c7] at H
     exact absurd H (by simp)
   rw [if_pos c7] at H
   have y3 := z1 c7
   clear c7
   have l4 := zK H
   clear H
   have t0 : 0 ≤ (q : Int) := z3
   have x0 : q < (u.length : Int) := z3
   obtain ⟨O4, y4, L, M, O⟩ := at_T122 D4.out q t0 x0
   cases y4
   (try replace L := zX HB L)
   (try replace M := zX HB M)
   (try replace O := zX HB O)
   replace t0 := eq_true t0
   replace x0 := eq_true x0
   go_upto_block 2 with (first | ((with_reducible refine gd 6 rfl ?_); (try (refine gate_guard (by rfl) ?_; dsimp only)); refine zJ 6 #[.int .i64 0, .int .i64 0, .int .i64 0] 122 ?_; intro y hg w9 hbox hb; have E4 := z8 hb; have F4 := zK (hbox); have G4 := z9 hg; have I4 := z9 hg; revert E4 F4 G4 I4; clear HB; intro HB l R4 S4; clear hb hbox hg; obtain ⟨y0, B0, C0, D0, E0, F0⟩ := zc3 l))
   (try simp only [Act.put, zq1, zq2, zq3])
   go_cut [7] (fun v7 wc => ∃ (kq : Nat) (d3 : Bool), v7 = .bool d3 ∧ Aside0 (spec_l11Code.j4 kq u a1 q d3 = some r) ∧ Aside0 (kq ≤ k2) ∧ Aside0 (wc.heap[y]? = some (.cells #[.int .i64 ((rd_T122 u q).f0), .int .i64 ((rd_T122 u q).f1), .int .i64 ((rd_T122 u q).f2)] 122 (0, 0))) ∧ Aside0 (Below w.heap.size w wc))
   case first =>
    have H := l4.out
    clear l4
    by_cases U : ((rd_T122 u q).f0) = 1
    · rw [if_pos U] at H
      have E := beq_iff_eq.mpr U
      have R1 := bne_eq_false_iff_eq.mpr U
      clear U
      (first | rw [E] | (simp only [i64_w, i32_w]; rw [E]) | skip)
      by_cases d0 : ((rd_T122 u q).f1) ≥ 0
      rotate_left
      · rw [if_neg d0] at H
        have S1 := z2 d0
        clear d0
        have H' := zK H
        clear H
        obtain ⟨G0, I0, J0, L0, M0, N0⟩ := zc3 l
        go_wp2
        go_meet
        case rel => exact ⟨_, (false), zR, H', ⟨by have := z.out; have := A.out; first | omega | exact Nat.le_refl _⟩, ⟨zW l⟩, ⟨zB⟩⟩
      rw [if_pos d0] at H
      have S1 := z1 d0
      clear d0
      by_cases e0 : ((rd_T122 u q).f1) < a1
      rotate_left
      · rw [if_neg e0] at H
        have T1 := z2 e0
        clear e0
        have H' := zK H
        clear H
        obtain ⟨O0, R0, S0, T0, U0, V0⟩ := zc3 l
        go_wp2
        go_meet
        case rel => exact ⟨_, (false), zR, H', ⟨by have := z.out; have := A.out; first | omega | exact Nat.le_refl _⟩, ⟨zW l⟩, ⟨zB⟩⟩
      rw [if_pos e0] at H
      have T1 := z1 e0
      clear e0
      have H' := zK H
      clear H
      obtain ⟨X0, b1, d1, e1, g1, i1⟩ := zc3 l
      go_wp2
      go_meet
      case rel => exact ⟨_, ((((rd_T122 u q).f2) == 0)), zR, H', ⟨by have := z.out; have := A.out; first | omega | exact Nat.le_refl _⟩, ⟨zW l⟩, ⟨zB⟩⟩
    rw [if_neg U] at H
    have E := beq_eq_false_iff_ne.mpr U
    have R1 := bne_iff_ne.mpr U
    (first | rw [E] | (simp only [i64_w, i32_w]; rw [E]) | skip)
    by_cases X : ((rd_T122 u q).f0) = 2
    · rw [if_pos X] at H
      have U1 := beq_iff_eq.mpr X
      have V1 := bne_eq_false_iff_eq.mpr X
      clear X
      by_cases g0 : ((rd_T122 u q).f1) ≥ 0
      rotate_left
      · rw [if_neg g0] at H
        have X1 := z2 g0
        clear g0
        have H' := zK H
        clear H
        obtain ⟨j1, l1, m1, n1, o1, s1⟩ := zc3 l
        go_wp2
        go_meet
        case rel => exact ⟨_, (false), zR, H', ⟨by have := z.out; have := A.out; first | omega | exact Nat.le_refl _⟩, ⟨zW l⟩, ⟨zB⟩⟩
      rw [if_pos g0] at H
      have X1 := z1 g0
      clear g0
      by_cases i0 : ((rd_T122 u q).f1) < 2147483647
      rotate_left
      · rw [if_neg i0] at H
        have a2 := z2 i0
        clear i0
        have H' := zK H
        clear H
        obtain ⟨t1, x1, y1, A1, B1, C1⟩ := zc3 l
        go_wp2
        go_meet
        case rel => exact ⟨_, (false), zR, H', ⟨by have := z.out; have := A.out; first | omega | exact Nat.le_refl _⟩, ⟨zW l⟩, ⟨zB⟩⟩
      rw [if_pos i0] at H
      have a2 := z1 i0
      clear i0
      have H' := zK H
      clear H
      obtain ⟨D1, E1, F1, G1, I1, J1⟩ := zc3 l
      go_wp2
      go_meet
      case rel => exact ⟨_, ((((rd_T122 u q).f2) == 0)), zR, H', ⟨by have := z.out; have := A.out; first | omega | exact Nat.le_refl _⟩, ⟨zW l⟩, ⟨zB⟩⟩
    rw [if_neg X] at H
    have U1 := beq_eq_false_iff_ne.mpr X
    have V1 := bne_iff_ne.mpr X
    have A3 := zK H
    clear H
    go_upto_if 59 with (fail)
    go_cut [59] (fun v59 wc => ∃ (kq : Nat) (m0 : Bool), v59 = .bool m0 ∧ Aside0 (spec_l11Code.j2 kq u a1 q false ((rd_T122 u q).f0) m0 ((rd_T122 u q).f0) ((rd_T122 u q).f1) ((rd_T122 u q).f2) = some r) ∧ Aside0 (kq ≤ k2) ∧ Aside0 (wc.heap[y]? = some (.cells #[.int .i64 ((rd_T122 u q).f0), .int .i64 ((rd_T122 u q).f1), .int .i64 ((rd_T122 u q).f2)] 122 (0, 0))) ∧ Aside0 (Below w.heap.size w wc))
    case first =>
     have H := A3.out
     clear A3
     by_cases a0 : ((rd_T122 u q).f0) = 3
     · rw [if_pos a0] at H
       have I := beq_iff_eq.mpr a0
       have b2 := bne_eq_false_iff_eq.mpr a0
       clear a0
       (first | rw [I] | (simp only [i64_w, i32_w]; rw [I]) | skip)
       have H' := zK H
       clear H
       go_wp2
       go_meet
       case rel => exact ⟨_, ((((rd_T122 u q).f0) == 3)), zR, H', ⟨by have := z.out; have := A.out; first | omega | exact Nat.le_refl _⟩, ⟨zW l⟩, ⟨zB⟩⟩
     rw [if_neg a0] at H
     have I := beq_eq_false_iff_ne.mpr a0
     have b2 := bne_iff_ne.mpr a0
     (first | rw [I] | (simp only [i64_w, i32_w]; rw [I]) | skip)
     by_cases b0 : ((rd_T122 u q).f0) = 4
     rotate_left
     · rw [if_neg b0] at H
       have d2 := beq_eq_false_iff_ne.mpr b0
       have e2 := bne_iff_ne.mpr b0
       have H' := zK H
       clear H
       go_wp2
       go_meet
       case rel => exact ⟨_, ((((rd_T122 u q).f0) == 5)), zR, H', ⟨by have := z.out; have := A.out; first | omega | exact Nat.le_refl _⟩, ⟨zW l⟩, ⟨zB⟩⟩
     rw [if_pos b0] at H
     have d2 := beq_iff_eq.mpr b0
     have e2 := bne_eq_false_iff_eq.mpr b0
     clear b0
     have H' := zK H
     clear H
     go_wp2
     go_meet
     case rel => exact ⟨_, ((((rd_T122 u q).f0) == 4)), zR, H', ⟨by have := z.out; have := A.out; first | omega | exact Nat.le_refl _⟩, ⟨zW l⟩, ⟨zB⟩⟩
    case rest =>
     clear A3
     try clear c1
     try clear p1
     try clear q1
     try clear t4
     try clear c2
     try clear p2
     try clear c4
     try clear J
     try clear s0
     try clear c5
     try clear c6
     try clear b3
     try clear c7
     try clear y3
     try clear U
     try clear E
     try clear R1
     try clear d0
     try clear S1
     try clear e0
     try clear T1
     try clear C3
     try clear D3
     try clear m4
     try clear X
     try clear U1
     try clear V1
     try clear g0
     try clear X1
     try clear i0
     try clear a2
     try clear a0
     try clear I
     try clear b2
     try clear b0
     try clear d2
     try clear e2
     try clear y0 B0 C0 D0 E0 F0
     try clear X0 b1 d1 e1 g1 i1
     try clear O0 R0 S0 T0 U0 V0
     try clear G0 I0 J0 L0 M0 N0
     try clear D1 E1 F1 G1 I1 J1
     try clear t1 x1 y1 A1 B1 C1
     try clear j1 l1 m1 n1 o1 s1
     try clear L
     try clear M
     try clear O
     try clear t0
     try clear p2
     try clear x0
     obtain ⟨kq, m0, rfl, HA, B, l, HB⟩ := hcut
     cases kq with
     | zero => exact absurd HA.out (by simp [spec_l11Code.j2])
     | succ A4 =>
      have H := HA.out
      clear HA
      simp only [spec_l11Code.j2] at H
      by_cases n2 : m0 = true
      · subst n2
        rw [if_pos rfl] at H
        by_cases L1 : ((rd_T122 u q).f1) ≥ 0
        rotate_left
        · rw [if_neg L1] at H
          have e3 := z2 L1
          clear L1
          have H' := zK H
          clear H
          have o2 : wc.cell? ⟨y, 0, none⟩ = some (.int .i64 ((rd_T122 u q).f0)) := zy l 0
          have q2 : wc.cell? ⟨y, 1, none⟩ = some (.int .i64 ((rd_T122 u q).f1)) := zy l 1
          have s2 : wc.cell? ⟨y, 2, none⟩ = some (.int .i64 ((rd_T122 u q).f2)) := zy l 2
          have t2 := zf l.out 0
          have x2 := zf l.out 1
          have y2 := zf l.out 2
          go_wp2
          go_meet
          case rel => exact ⟨_, (false), zR, H', ⟨by have := z.out; have := A.out; have := B.out; first | omega | exact Nat.le_refl _⟩, ⟨zM l⟩, ⟨zB⟩⟩
        rw [if_pos L1] at H
        have e3 := z1 L1
        clear L1
        by_cases M1 : ((rd_T122 u q).f1) < q
        rotate_left
        · rw [if_neg M1] at H
          have f3 := z2 M1
          clear M1
          have H' := zK H
          clear H
          have A2 : wc.cell? ⟨y, 0, none⟩ = some (.int .i64 ((rd_T122 u q).f0)) := zy l 0
          have B2 : wc.cell? ⟨y, 1, none⟩ = some (.int .i64 ((rd_T122 u q).f1)) := zy l 1
          have C2 : wc.cell? ⟨y, 2, none⟩ = some (.int .i64 ((rd_T122 u q).f2)) := zy l 2
          have D2 := zf l.out 0
          have E2 := zf l.out 1
          have F2 := zf l.out 2
          go_wp2
          go_meet
          case rel => exact ⟨_, (false), zR, H', ⟨by have := z.out; have := A.out; have := B.out; first | omega | exact Nat.le_refl _⟩, ⟨zM l⟩, ⟨zB⟩⟩
        rw [if_pos M1] at H
        have f3 := z1 M1
        clear M1
        by_cases N1 : ((rd_T122 u q).f2) ≥ 0
        rotate_left
        · rw [if_neg N1] at H
          have g3 := z2 N1
          clear N1
          have H' := zK H
          clear H
          have G2 : wc.cell? ⟨y, 0, none⟩ = some (.int .i64 ((rd_T122 u q).f0)) := zy l 0
          have I2 : wc.cell? ⟨y, 1, none⟩ = some (.int .i64 ((rd_T122 u q).f1)) := zy l 1
          have J2 : wc.cell? ⟨y, 2, none⟩ = some (.int .i64 ((rd_T122 u q).f2)) := zy l 2
          have L2 := zf l.out 0
          have M2 := zf l.out 1
          have N2 := zf l.out 2
          go_wp2
          go_meet
          case rel => exact ⟨_, (false), zR, H', ⟨by have := z.out; have := A.out; have := B.out; first | omega | exact Nat.le_refl _⟩, ⟨zM l⟩, ⟨zB⟩⟩
        rw [if_pos N1] at H
        have g3 := z1 N1
        clear N1
        have H' := zK H
        clear H
        have O2 : wc.cell? ⟨y, 0, none⟩ = some (.int .i64 ((rd_T122 u q).f0)) := zy l 0
        have R2 : wc.cell? ⟨y, 1, none⟩ = some (.int .i64 ((rd_T122 u q).f1)) := zy l 1
        have T2 : wc.cell? ⟨y, 2, none⟩ = some (.int .i64 ((rd_T122 u q).f2)) := zy l 2
        have U2 := zf l.out 0
        have V2 := zf l.out 1
        have X2 := zf l.out 2
        go_wp2
        go_meet
        case rel => exact ⟨_, (decide (((rd_T122 u q).f2) < q)), zR, H', ⟨by have := z.out; have := A.out; have := B.out; first | omega | exact Nat.le_refl _⟩, ⟨zM l⟩, ⟨zB⟩⟩
      replace n2 := Bool.eq_false_iff.mpr n2
      subst n2
      rw [if_neg (show ¬ (false = true) by decide)] at H
      have B3 := zK H
      clear H
      go_upto_if 83 with (fail)
      go_cut [83] (fun v83 wc => ∃ (kq : Nat) (n0 : Bool), v83 = .bool n0 ∧ Aside0 (spec_l11Code.j3 kq u a1 q false n0 ((rd_T122 u q).f0) ((rd_T122 u q).f1) ((rd_T122 u q).f2) = some r) ∧ Aside0 (kq ≤ A4) ∧ Aside0 (wc.heap[y]? = some (.cells #[.int .i64 ((rd_T122 u q).f0), .int .i64 ((rd_T122 u q).f1), .int .i64 ((rd_T122 u q).f2)] 122 (0, 0))) ∧ Aside0 (Below w.heap.size w wc))
      case first =>
       have H := B3.out
       clear B3
       by_cases o0 : ((rd_T122 u q).f0) = 6
       · rw [if_pos o0] at H
         have T := beq_iff_eq.mpr o0
         have i3 := bne_eq_false_iff_eq.mpr o0
         clear o0
         (first | rw [T] | (simp only [i64_w, i32_w]; rw [T]) | skip)
         have H' := zK H
         clear H
         go_wp2
         go_meet
         case rel => exact ⟨_, ((((rd_T122 u q).f0) == 6)), zR, H', ⟨by have := z.out; have := A.out; have := B.out; first | omega | exact Nat.le_refl _⟩, ⟨zM l⟩, ⟨zB⟩⟩
       rw [if_neg o0] at H
       have T := beq_eq_false_iff_ne.mpr o0
       have i3 := bne_iff_ne.mpr o0
       (first | rw [T] | (simp only [i64_w, i32_w]; rw [T]) | skip)
       by_cases p0 : ((rd_T122 u q).f0) = 7
       · rw [if_pos p0] at H
         have l3 := beq_iff_eq.mpr p0
         have m3 := bne_eq_false_iff_eq.mpr p0
         clear p0
         have H' := zK H
         clear H
         go_wp2
         go_meet
         case rel => exact ⟨_, ((((rd_T122 u q).f0) == 7)), zR, H', ⟨by have := z.out; have := A.out; have := B.out; first | omega | exact Nat.le_refl _⟩, ⟨zM l⟩, ⟨zB⟩⟩
       rw [if_neg p0] at H
       have l3 := beq_eq_false_iff_ne.mpr p0
       have m3 := bne_iff_ne.mpr p0
       by_cases q0 : ((rd_T122 u q).f0) = 8
       rotate_left
       · rw [if_neg q0] at H
         have n3 := beq_eq_false_iff_ne.mpr q0
         have o3 := bne_iff_ne.mpr q0
         have H' := zK H
         clear H
         go_wp2
         go_meet
         case rel => exact ⟨_, ((((rd_T122 u q).f0) == 9)), zR, H', ⟨by have := z.out; have := A.out; have := B.out; first | omega | exact Nat.le_refl _⟩, ⟨zM l⟩, ⟨zB⟩⟩
       rw [if_pos q0] at H
       have n3 := beq_iff_eq.mpr q0
       have o3 := bne_eq_false_iff_eq.mpr q0
       clear q0
       have H' := zK H
       clear H
       go_wp2
       go_meet
       case rel => exact ⟨_, ((((rd_T122 u q).f0) == 8)), zR, H', ⟨by have := z.out; have := A.out; have := B.out; first | omega | exact Nat.le_refl _⟩, ⟨zM l⟩, ⟨zB⟩⟩
      case rest =>
       clear B3
       try clear c1
       try clear p1
       try clear q1
       try clear t4
       try clear c2
       try clear p2
       try clear c3
       try clear c4
       try clear J
       try clear s0
       try clear c5
       try clear c6
       try clear b3
       try clear c7
       try clear y3
       try clear U
       try clear E
       try clear R1
       try clear d0
       try clear S1
       try clear e0
       try clear T1
       try clear C3
       try clear D3
       try clear m4
       try clear X
       try clear U1
       try clear V1
       try clear g0
       try clear X1
       try clear i0
       try clear a2
       try clear a0
       try clear I
       try clear b2
       try clear b0
       try clear d2
       try clear e2
       try clear n2
       try clear L1
       try clear e3
       try clear M1
       try clear f3
       try clear N1
       try clear g3
       try clear o0
       try clear T
       try clear i3
       try clear p0
       try clear l3
       try clear m3
       try clear q0
       try clear n3
       try clear o3
       try clear y0 B0 C0 D0 E0 F0
       try clear X0 b1 d1 e1 g1 i1
       try clear O0 R0 S0 T0 U0 V0
       try clear G0 I0 J0 L0 M0 N0
       try clear D1 E1 F1 G1 I1 J1
       try clear t1 x1 y1 A1 B1 C1
       try clear j1 l1 m1 n1 o1 s1
       try clear O2 R2 T2 U2 V2 X2
       try clear G2 I2 J2 L2 M2 N2
       try clear A2 B2 C2 D2 E2 F2
       try clear o2 q2 s2 t2 x2 y2
       try clear L
       try clear M
       try clear O
       try clear p1
       try clear C3
       try clear t0
       try clear p2
       try clear q1
       try clear D3
       try clear x0
       obtain ⟨kq, n0, rfl, HA, p3, l, HB⟩ := hcut
       cases kq with
       | zero => exact absurd HA.out (by simp [spec_l11Code.j3])
       | succ U4 =>
        have H := HA.out
        clear HA
        simp only [spec_l11Code.j3] at H
        by_cases t3 : n0 = true
        rotate_left
        · replace t3 := Bool.eq_false_iff.mpr t3
          subst t3
          rw [if_neg (show ¬ (false = true) by decide)] at H
          have H' := zK H
          clear H
          go_wp2
          go_meet
          case rel => exact ⟨_, (false), zR, H', ⟨by have := z.out; have := A.out; have := B.out; have := p3.out; first | omega | exact Nat.le_refl _⟩, ⟨zM l⟩, ⟨zB⟩⟩
        subst t3
        rw [if_pos rfl] at H
        by_cases i2 : ((rd_T122 u q).f1) ≥ 0
        rotate_left
        · rw [if_neg i2] at H
          have E3 := z2 i2
          clear i2
          have H' := zK H
          clear H
          have I3 : wc.cell? ⟨y, 0, none⟩ = some (.int .i64 ((rd_T122 u q).f0)) := zy l 0
          have J3 : wc.cell? ⟨y, 1, none⟩ = some (.int .i64 ((rd_T122 u q).f1)) := zy l 1
          have L3 : wc.cell? ⟨y, 2, none⟩ = some (.int .i64 ((rd_T122 u q).f2)) := zy l 2
          have M3 := zf l.out 0
          have N3 := zf l.out 1
          have O3 := zf l.out 2
          go_wp2
          go_meet
          case rel => exact ⟨_, (false), zR, H', ⟨by have := z.out; have := A.out; have := B.out; have := p3.out; first | omega | exact Nat.le_refl _⟩, ⟨zM l⟩, ⟨zB⟩⟩
        rw [if_pos i2] at H
        have E3 := z1 i2
        clear i2
        by_cases l2 : ((rd_T122 u q).f1) < q
        rotate_left
        · rw [if_neg l2] at H
          have F3 := z2 l2
          clear l2
          have H' := zK H
          clear H
          have R3 : wc.cell? ⟨y, 0, none⟩ = some (.int .i64 ((rd_T122 u q).f0)) := zy l 0
          have S3 : wc.cell? ⟨y, 1, none⟩ = some (.int .i64 ((rd_T122 u q).f1)) := zy l 1
          have T3 : wc.cell? ⟨y, 2, none⟩ = some (.int .i64 ((rd_T122 u q).f2)) := zy l 2
          have U3 := zf l.out 0
          have V3 := zf l.out 1
          have X3 := zf l.out 2
          go_wp2
          go_meet
          case rel => exact ⟨_, (false), zR, H', ⟨by have := z.out; have := A.out; have := B.out; have := p3.out; first | omega | exact Nat.le_refl _⟩, ⟨zM l⟩, ⟨zB⟩⟩
        rw [if_pos l2] at H
        have F3 := z1 l2
        clear l2
        have H' := zK H
        clear H
        have a4 : wc.cell? ⟨y, 0, none⟩ = some (.int .i64 ((rd_T122 u q).f0)) := zy l 0
        have b4 : wc.cell? ⟨y, 1, none⟩ = some (.int .i64 ((rd_T122 u q).f1)) := zy l 1
        have d4 : wc.cell? ⟨y, 2, none⟩ = some (.int .i64 ((rd_T122 u q).f2)) := zy l 2
        have e4 := zf l.out 0
        have f4 := zf l.out 1
        have g4 := zf l.out 2
        go_wp2
        go_meet
        case rel => exact ⟨_, ((((rd_T122 u q).f2) == 0)), zR, H', ⟨by have := z.out; have := A.out; have := B.out; have := p3.out; first | omega | exact Nat.le_refl _⟩, ⟨zM l⟩, ⟨zB⟩⟩
   case rest =>
    clear l4
    try clear c1
    try clear p1
    try clear q1
    try clear t4
    try clear c2
    try clear p2
    try clear c3
    try clear c4
    try clear J
    try clear s0
    try clear c5
    try clear c6
    try clear b3
    try clear c7
    try clear y3
    try clear U
    try clear E
    try clear R1
    try clear d0
    try clear S1
    try clear e0
    try clear T1
    try clear C3
    try clear D3
    try clear m4
    try clear X
    try clear U1
    try clear V1
    try clear g0
    try clear X1
    try clear i0
    try clear a2
    try clear a0
    try clear I
    try clear b2
    try clear b0
    try clear d2
    try clear e2
    try clear n2
    try clear L1
    try clear e3
    try clear M1
    try clear f3
    try clear N1
    try clear g3
    try clear o0
    try clear T
    try clear i3
    try clear p0
    try clear l3
    try clear m3
    try clear q0
    try clear n3
    try clear o3
    try clear t3
    try clear i2
    try clear E3
    try clear l2
    try clear F3
    try clear y0 B0 C0 D0 E0 F0
    try clear X0 b1 d1 e1 g1 i1
    try clear O0 R0 S0 T0 U0 V0
    try clear G0 I0 J0 L0 M0 N0
    try clear D1 E1 F1 G1 I1 J1
    try clear t1 x1 y1 A1 B1 C1
    try clear j1 l1 m1 n1 o1 s1
    try clear O2 R2 T2 U2 V2 X2
    try clear G2 I2 J2 L2 M2 N2
    try clear A2 B2 C2 D2 E2 F2
    try clear o2 q2 s2 t2 x2 y2
    try clear a4 b4 d4 e4 f4 g4
    try clear R3 S3 T3 U3 V3 X3
    try clear I3 J3 L3 M3 N3 O3
    try clear L
    try clear M
    try clear O
    try clear p1
    try clear C3
    try clear t0
    try clear p2
    try clear q1
    try clear D3
    try clear x0
    obtain ⟨kq, d3, rfl, HA, x4, l, HB⟩ := hcut
    cases kq with
    | zero => exact absurd HA.out (by simp [spec_l11Code.j4])
    | succ M4 =>
     have H := HA.out
     clear HA
     simp only [spec_l11Code.j4] at H
     by_cases G3 : d3 = true
     rotate_left
     · replace G3 := Bool.eq_false_iff.mpr G3
       subst G3
       rw [if_neg (show ¬ (false = true) by decide)] at H
       obtain rfl := z5 H
       go_wp2
       go_ret
       exact ⟨zE, zB⟩
     subst G3
     rw [if_pos rfl] at H
     have H' := zK H
     clear H
     go_wp2
     go_roundg M4
     case measure => have := z.out; have := A.out; have := x4.out; omega
     case rel => exact ⟨(wrap64 (q + 1)), zR, H', ⟨by have := z.out; have := A.out; have := x4.out; omega⟩, ⟨zB⟩⟩
end Go.Proofs.Ytmcboiffbcnalaa.PFnExactLives
