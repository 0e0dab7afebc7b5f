-- Printed out of the translation by this session's own turned copy of a printer; Lean checks it.
import Derived.Test.YtmcboiffbcnalaaPFnExactLivesx0
import Derived.Test.YtmcboiffbcnalaaPFnExactLivesx10
namespace Go.Proofs.Ytmcboiffbcnalaa.PFnExactLives
open Go.RowKit Go.Proofs.YtmcboiffbcnalaaW.PrintWords Go.Proofs.YtmcboiffbcnalaaW.PrintLast Go.Proofs.YtmcboiffbcnalaaW.PrintMore
attribute [local go_sem] max2_int min2_int max_two min_two max_three min_three max_four min_four
set_option linter.unusedVariables false
set_option linter.unusedSimpArgs false
set_option maxHeartbeats 8000000
set_option maxRecDepth 100000
mutual
def impl_codeOk.j0 : Nat → List (S122) → Int → Bool → Option (Bool)
 | 0, _, _, _ => none
 | k + 1, l, u, q => if q = true then (some false) else (impl_codeOk.l0 k u l (l.length : Int) 0)
def impl_codeOk.l0 : Nat → Int → List (S122) → Int → Int → Option (Bool)
 | 0, _, _, _, _ => none
 | k + 1, y, q, u, l => if l < u then (if 0 ≤ l then (if l < (q.length : Int) then (if ((rd_T122 q l).f0) = 1 then (if ((rd_T122 q l).f1) ≥ 0 then (if ((rd_T122 q l).f1) < y then (impl_codeOk.j4 k y (((rd_T122 q l).f2) == 0) q u l) else (impl_codeOk.j4 k y false q u l)) else (impl_codeOk.j4 k y false q u l)) else (if ((rd_T122 q l).f0) = 2 then ((impl_isNum.f ((rd_T122 q l).f1)).bind fun z => (if z = true then (impl_codeOk.j4 k y (((rd_T122 q l).f2) == 0) q u l) else (impl_codeOk.j4 k y false q u l))) else (if ((rd_T122 q l).f0) = 3 then (impl_codeOk.j2 k y l false q u l ((rd_T122 q l).f0) (((rd_T122 q l).f0) == 3) ((rd_T122 q l).f0) ((rd_T122 q l).f1) ((rd_T122 q l).f2)) else (if ((rd_T122 q l).f0) = 4 then (impl_codeOk.j2 k y l false q u l ((rd_T122 q l).f0) (((rd_T122 q l).f0) == 4) ((rd_T122 q l).f0) ((rd_T122 q l).f1) ((rd_T122 q l).f2)) else (impl_codeOk.j2 k y l false q u l ((rd_T122 q l).f0) (((rd_T122 q l).f0) == 5) ((rd_T122 q l).f0) ((rd_T122 q l).f1) ((rd_T122 q l).f2)))))) else (none)) else (none)) else (some true)
def impl_codeOk.j4 : Nat → Int → Bool → List (S122) → Int → Int → Option (Bool)
 | 0, _, _, _, _, _ => none
 | k + 1, y, z, l, q, u => if z = true then (impl_codeOk.l0 k y l q (wrap64 (u + 1))) else (some false)
def impl_codeOk.j2 : Nat → Int → Int → Bool → List (S122) → Int → Int → Int → Bool → Int → Int → Int → Option (Bool)
 | 0, _, _, _, _, _, _, _, _, _, _, _ => none
 | k + 1, E, I, J, y, z, A, B, L, u, l, q => if L = true then (if l ≥ 0 then (if l < I then (if q ≥ 0 then (impl_codeOk.j4 k E (decide (q < I)) y z A) else (impl_codeOk.j4 k E false y z A)) else (impl_codeOk.j4 k E false y z A)) else (impl_codeOk.j4 k E false y z A)) else (if B = 6 then (impl_codeOk.j3 k E I J y z A (B == 6) u l q) else (if B = 7 then (impl_codeOk.j3 k E I J y z A (B == 7) u l q) else (if B = 8 then (impl_codeOk.j3 k E I J y z A (B == 8) u l q) else (impl_codeOk.j3 k E I J y z A (B == 9) u l q))))
def impl_codeOk.j3 : Nat → Int → Int → Bool → List (S122) → Int → Int → Bool → Int → Int → Int → Option (Bool)
 | 0, _, _, _, _, _, _, _, _, _, _ => none
 | k + 1, A, I, J, q, u, y, E, B, l, z => if E = true then (if l ≥ 0 then (if l < I then (impl_codeOk.j4 k A (z == 0) q u y) else (impl_codeOk.j4 k A false q u y)) else (impl_codeOk.j4 k A false q u y)) else (impl_codeOk.j4 k A J q u y)
end
def impl_codeOk.f (k : Nat) (l : List (S122)) (q : Int) : Option (Bool) := if (l.length : Int) < 1 then (impl_codeOk.j0 k l q true) else (impl_codeOk.j0 k l q (decide ((l.length : Int) > 60)))
theorem impl_codeOk.calls (k) (A0) (c0) (u : List (S122)) (a1) (r : Bool) (w) (d4 : Kd.C k122 w A0 u.length u) (e4 : u.length ≤ c0) (h : impl_codeOk.f k u a1 = some r) :
 Calls Try.prog 68 #[.slice A0 u.length c0, .int .i64 a1] w fun e w' => e = .returned (.bool r) ∧ Below w.heap.size w w' := by
 have I4 := Try.underlying122
 have y4 := zK d4
 have R4 := zK e4
 clear d4 e4
 have HB := zK (Below.refl w.heap.size w)
 have H : (if (u.length : Int) < 1 then (impl_codeOk.j0 k u a1 true) else (impl_codeOk.j0 k u a1 (decide ((u.length : Int) > 60)))) = some r := h
 clear h
 have U3 := zK H
 clear H
 go_enter Try.func68, Try.ntmps68
 go_upto_region 1 with (fail)
 go_cut [15] (fun v15 wc => ∃ (kq : Nat) (C1 : Bool), v15 = .bool C1 ∧ Aside0 (impl_codeOk.j0 kq u a1 C1 = some r) ∧ Aside0 (kq ≤ k) ∧ Aside0 (Below w.heap.size w wc))
 case first =>
  have H := U3.out
  clear U3
  by_cases c4 : (u.length : Int) < 1
  · rw [if_pos c4] at H
    have J := z1 c4
    have p0 : decide (u.length < 1) = true := z1 (by omega)
    clear c4
    (first | rw [J] | (simp only [i64_w, i32_w]; rw [J]) | skip)
    have H' := zK H
    clear H
    go_wp2
    go_meet
    case rel => exact ⟨_, (true), zR, H', ⟨by first | omega | exact Nat.le_refl _⟩, ⟨zB⟩⟩
  rw [if_neg c4] at H
  have J := z2 c4
  have p0 : decide (u.length < 1) = false := z2 (by omega)
  clear c4
  (first | rw [J] | (simp only [i64_w, i32_w]; rw [J]) | skip)
  have H' := zK H
  clear H
  go_wp2
  go_meet
  case rel => exact ⟨_, (decide ((u.length : Int) > 60)), zR, H', ⟨by first | omega | exact Nat.le_refl _⟩, ⟨zB⟩⟩
 case rest =>
  clear U3
  try clear p2
  try clear c4
  try clear J
  try clear p0
  obtain ⟨kq, C1, rfl, HA, z, HB⟩ := hcut
  cases kq with
  | zero => exact absurd HA.out (by simp [impl_codeOk.j0])
  | succ f4 =>
   have H := HA.out
   clear HA
   simp only [impl_codeOk.j0] at H
   by_cases c5 : C1 = true
   · subst c5
     rw [if_pos rfl] at H
     obtain rfl := z5 H
     go_wp2
     go_ret
     exact ⟨zE, zB⟩
   replace c5 := Bool.eq_false_iff.mpr c5
   subst c5
   rw [if_neg (show ¬ (false = true) by decide)] at H
   have H' := zK H
   clear H
   go_wp2
   go_loopg [18] f4 (fun kq v18 w' => ∃ (l : Int), v18 = .int .i64 l ∧ Aside0 (impl_codeOk.l0 kq a1 u (u.length : Int) l = some r) ∧ Aside0 (kq ≤ f4) ∧ Aside0 (Below w.heap.size w w'))
   case atStart => exact ⟨(0), zR, H', ⟨Nat.le_refl _⟩, ⟨zB⟩⟩
   clear H'
   try clear p2
   try clear c4
   try clear J
   try clear p0
   try clear c5
   try clear p2
   obtain ⟨l, rfl, HA, A, HB⟩ := hrel
   rcases gk with _ | k2
   · exact absurd HA.out (by simp [impl_codeOk.l0])
   have H := HA.out
   clear HA
   simp only [impl_codeOk.l0] at H
   by_cases c6 : l < (u.length : Int)
   rotate_left
   · rw [if_neg c6] at H
     have J2 := z2 c6
     clear c6
     obtain rfl := z5 H
     go_wp2
     go_ret
     exact ⟨zE, zB⟩
   rw [if_pos c6] at H
   have J2 := z1 c6
   clear c6
   by_cases c7 : 0 ≤ l
   rotate_left
   · rw [if_neg c7] at H
     exact absurd H (by simp)
   rw [if_pos c7] at H
   have g3 := z1 c7
   clear c7
   by_cases c8 : l < (u.length : Int)
   rotate_left
   · rw [if_neg c8] at H
     exact absurd H (by simp)
   rw [if_pos c8] at H
   have l3 := z1 c8
   clear c8
   have V3 := zK H
   clear H
   have q0 : 0 ≤ (l : Int) := z3
   have s0 : l < (u.length : Int) := z3
   obtain ⟨J4, o4, L, M, O⟩ := at_T122 y4.out l q0 s0
   cases o4
   (try replace L := zX HB L)
   (try replace M := zX HB M)
   (try replace O := zX HB O)
   replace q0 := eq_true q0
   replace s0 := eq_true s0
   go_upto_block 2 with (first | ((with_reducible refine gd 6 rfl ?_); (try (refine gate_guard (by rfl) ?_; dsimp only)); refine zJ 6 #[.int .i64 0, .int .i64 0, .int .i64 0] 122 ?_; intro y hg S4 hbox hb; have A4 := z8 hb; have B4 := zK (hbox); have C4 := z9 hg; have D4 := z9 hg; revert A4 B4 C4 D4; clear HB; intro HB q L4 M4; clear hb hbox hg; obtain ⟨t0, x0, y0, B0, C0, D0⟩ := zc3 q))
   (try simp only [Act.put, zq1, zq2, zq3])
   go_cut [7] (fun v7 wc => ∃ (kq : Nat) (L2 : Bool), v7 = .bool L2 ∧ Aside0 (impl_codeOk.j4 kq a1 L2 u (u.length : Int) l = some r) ∧ Aside0 (kq ≤ k2) ∧ Aside0 (wc.heap[y]? = some (.cells #[.int .i64 ((rd_T122 u l).f0), .int .i64 ((rd_T122 u l).f1), .int .i64 ((rd_T122 u l).f2)] 122 (0, 0))) ∧ Aside0 (Below w.heap.size w wc))
   case first =>
    have H := V3.out
    clear V3
    by_cases U : ((rd_T122 u l).f0) = 1
    · rw [if_pos U] at H
      have E := beq_iff_eq.mpr U
      have D1 := bne_eq_false_iff_eq.mpr U
      clear U
      (first | rw [E] | (simp only [i64_w, i32_w]; rw [E]) | skip)
      by_cases d0 : ((rd_T122 u l).f1) ≥ 0
      rotate_left
      · rw [if_neg d0] at H
        have E1 := z2 d0
        clear d0
        have H' := zK H
        clear H
        obtain ⟨E0, F0, G0, I0, J0, L0⟩ := zc3 q
        go_wp2
        go_meet
        case rel => exact ⟨_, (false), zR, H', ⟨by have := z.out; have := A.out; first | omega | exact Nat.le_refl _⟩, ⟨zW q⟩, ⟨zB⟩⟩
      rw [if_pos d0] at H
      have E1 := z1 d0
      clear d0
      by_cases e0 : ((rd_T122 u l).f1) < a1
      rotate_left
      · rw [if_neg e0] at H
        have F1 := z2 e0
        clear e0
        have H' := zK H
        clear H
        obtain ⟨M0, N0, O0, R0, S0, T0⟩ := zc3 q
        go_wp2
        go_meet
        case rel => exact ⟨_, (false), zR, H', ⟨by have := z.out; have := A.out; first | omega | exact Nat.le_refl _⟩, ⟨zW q⟩, ⟨zB⟩⟩
      rw [if_pos e0] at H
      have F1 := z1 e0
      clear e0
      have H' := zK H
      clear H
      obtain ⟨U0, V0, X0, b1, d1, e1⟩ := zc3 q
      go_wp2
      go_meet
      case rel => exact ⟨_, ((((rd_T122 u l).f2) == 0)), zR, H', ⟨by have := z.out; have := A.out; first | omega | exact Nat.le_refl _⟩, ⟨zW q⟩, ⟨zB⟩⟩
    rw [if_neg U] at H
    have E := beq_eq_false_iff_ne.mpr U
    have D1 := bne_iff_ne.mpr U
    (first | rw [E] | (simp only [i64_w, i32_w]; rw [E]) | skip)
    by_cases X : ((rd_T122 u l).f0) = 2
    · rw [if_pos X] at H
      have G1 := beq_iff_eq.mpr X
      have I1 := bne_eq_false_iff_eq.mpr X
      clear X
      replace H := z6 H
      obtain ⟨p4, X3, H⟩ := H
      have g4 := zK X3
      clear X3
      by_cases O1 : p4 = true
      · subst O1
        rw [if_pos rfl] at H
        have H' := zK H
        clear H
        obtain ⟨g1, i1, j1, l1, m1, n1⟩ := zc3 q
        go_wp2_with (first | ((with_reducible refine gc 82 rfl ?_); refine zF 45 Try.func82 #[.int .i64 ((rd_T122 u l).f1)] rfl zL ?_; (with_reducible refine (impl_isNum.calls ((rd_T122 u l).f1) true _ g4.out).mono ?_); rintro e w' ⟨rfl, ⟨nd, rfl⟩⟩; refine ⟨_, rfl, ?_⟩))
        go_meet
        case rel => exact ⟨_, ((((rd_T122 u l).f2) == 0)), zR, H', ⟨by have := z.out; have := A.out; first | omega | exact Nat.le_refl _⟩, ⟨zW q⟩, ⟨zB⟩⟩
      replace O1 := Bool.eq_false_iff.mpr O1
      subst O1
      rw [if_neg (show ¬ (false = true) by decide)] at H
      have H' := zK H
      clear H
      obtain ⟨o1, p1, q1, s1, t1, x1⟩ := zc3 q
      go_wp2_with (first | ((with_reducible refine gc 82 rfl ?_); refine zF 45 Try.func82 #[.int .i64 ((rd_T122 u l).f1)] rfl zL ?_; (with_reducible refine (impl_isNum.calls ((rd_T122 u l).f1) false _ g4.out).mono ?_); rintro e w' ⟨rfl, ⟨nd, rfl⟩⟩; refine ⟨_, rfl, ?_⟩))
      go_meet
      case rel => exact ⟨_, (false), zR, H', ⟨by have := z.out; have := A.out; first | omega | exact Nat.le_refl _⟩, ⟨zW q⟩, ⟨zB⟩⟩
    rw [if_neg X] at H
    have G1 := beq_eq_false_iff_ne.mpr X
    have I1 := bne_iff_ne.mpr X
    have m3 := zK H
    clear H
    go_upto_if 51 with (fail)
    go_cut [51] (fun v51 wc => ∃ (kq : Nat) (g0 : Bool), v51 = .bool g0 ∧ Aside0 (impl_codeOk.j2 kq a1 l false u (u.length : Int) l ((rd_T122 u l).f0) g0 ((rd_T122 u l).f0) ((rd_T122 u l).f1) ((rd_T122 u l).f2) = some r) ∧ Aside0 (kq ≤ k2) ∧ Aside0 (wc.heap[y]? = some (.cells #[.int .i64 ((rd_T122 u l).f0), .int .i64 ((rd_T122 u l).f1), .int .i64 ((rd_T122 u l).f2)] 122 (0, 0))) ∧ Aside0 (Below w.heap.size w wc))
    case first =>
     have H := m3.out
     clear m3
     by_cases a0 : ((rd_T122 u l).f0) = 3
     · rw [if_pos a0] at H
       have I := beq_iff_eq.mpr a0
       have J1 := bne_eq_false_iff_eq.mpr a0
       clear a0
       (first | rw [I] | (simp only [i64_w, i32_w]; rw [I]) | skip)
       have H' := zK H
       clear H
       go_wp2
       go_meet
       case rel => exact ⟨_, ((((rd_T122 u l).f0) == 3)), zR, H', ⟨by have := z.out; have := A.out; first | omega | exact Nat.le_refl _⟩, ⟨zW q⟩, ⟨zB⟩⟩
     rw [if_neg a0] at H
     have I := beq_eq_false_iff_ne.mpr a0
     have J1 := bne_iff_ne.mpr a0
     (first | rw [I] | (simp only [i64_w, i32_w]; rw [I]) | skip)
     by_cases b0 : ((rd_T122 u l).f0) = 4
     rotate_left
     · rw [if_neg b0] at H
       have L1 := beq_eq_false_iff_ne.mpr b0
       have M1 := bne_iff_ne.mpr b0
       have H' := zK H
       clear H
       go_wp2
       go_meet
       case rel => exact ⟨_, ((((rd_T122 u l).f0) == 5)), zR, H', ⟨by have := z.out; have := A.out; first | omega | exact Nat.le_refl _⟩, ⟨zW q⟩, ⟨zB⟩⟩
     rw [if_pos b0] at H
     have L1 := beq_iff_eq.mpr b0
     have M1 := bne_eq_false_iff_eq.mpr b0
     clear b0
     have H' := zK H
     clear H
     go_wp2
     go_meet
     case rel => exact ⟨_, ((((rd_T122 u l).f0) == 4)), zR, H', ⟨by have := z.out; have := A.out; first | omega | exact Nat.le_refl _⟩, ⟨zW q⟩, ⟨zB⟩⟩
    case rest =>
     clear m3
     try clear c1
     try clear c2
     try clear p2
     try clear p3
     try clear q3
     try clear i4
     try clear c4
     try clear J
     try clear p0
     try clear c5
     try clear c6
     try clear J2
     try clear c7
     try clear g3
     try clear c8
     try clear l3
     try clear U
     try clear E
     try clear D1
     try clear d0
     try clear E1
     try clear e0
     try clear F1
     try clear X
     try clear G1
     try clear I1
     try clear O1
     try clear a0
     try clear I
     try clear J1
     try clear b0
     try clear L1
     try clear M1
     try clear t0 x0 y0 B0 C0 D0
     try clear U0 V0 X0 b1 d1 e1
     try clear M0 N0 O0 R0 S0 T0
     try clear E0 F0 G0 I0 J0 L0
     try clear g1 i1 j1 l1 m1 n1
     try clear o1 p1 q1 s1 t1 x1
     try clear L
     try clear M
     try clear O
     try clear p2
     try clear q0
     try clear s0
     obtain ⟨kq, g0, rfl, HA, B, q, HB⟩ := hcut
     cases kq with
     | zero => exact absurd HA.out (by simp [impl_codeOk.j2])
     | succ q4 =>
      have H := HA.out
      clear HA
      simp only [impl_codeOk.j2] at H
      by_cases U1 : g0 = true
      · subst U1
        rw [if_pos rfl] at H
        by_cases y1 : ((rd_T122 u l).f1) ≥ 0
        rotate_left
        · rw [if_neg y1] at H
          have M2 := z2 y1
          clear y1
          have H' := zK H
          clear H
          have V1 : wc.cell? ⟨y, 0, none⟩ = some (.int .i64 ((rd_T122 u l).f0)) := zy q 0
          have X1 : wc.cell? ⟨y, 1, none⟩ = some (.int .i64 ((rd_T122 u l).f1)) := zy q 1
          have a2 : wc.cell? ⟨y, 2, none⟩ = some (.int .i64 ((rd_T122 u l).f2)) := zy q 2
          have b2 := zf q.out 0
          have d2 := zf q.out 1
          have e2 := zf q.out 2
          go_wp2
          go_meet
          case rel => exact ⟨_, (false), zR, H', ⟨by have := z.out; have := A.out; have := B.out; first | omega | exact Nat.le_refl _⟩, ⟨zM q⟩, ⟨zB⟩⟩
        rw [if_pos y1] at H
        have M2 := z1 y1
        clear y1
        by_cases A1 : ((rd_T122 u l).f1) < l
        rotate_left
        · rw [if_neg A1] at H
          have N2 := z2 A1
          clear A1
          have H' := zK H
          clear H
          have g2 : wc.cell? ⟨y, 0, none⟩ = some (.int .i64 ((rd_T122 u l).f0)) := zy q 0
          have i2 : wc.cell? ⟨y, 1, none⟩ = some (.int .i64 ((rd_T122 u l).f1)) := zy q 1
          have l2 : wc.cell? ⟨y, 2, none⟩ = some (.int .i64 ((rd_T122 u l).f2)) := zy q 2
          have m2 := zf q.out 0
          have n2 := zf q.out 1
          have o2 := zf q.out 2
          go_wp2
          go_meet
          case rel => exact ⟨_, (false), zR, H', ⟨by have := z.out; have := A.out; have := B.out; first | omega | exact Nat.le_refl _⟩, ⟨zM q⟩, ⟨zB⟩⟩
        rw [if_pos A1] at H
        have N2 := z1 A1
        clear A1
        by_cases B1 : ((rd_T122 u l).f2) ≥ 0
        rotate_left
        · rw [if_neg B1] at H
          have O2 := z2 B1
          clear B1
          have H' := zK H
          clear H
          have q2 : wc.cell? ⟨y, 0, none⟩ = some (.int .i64 ((rd_T122 u l).f0)) := zy q 0
          have s2 : wc.cell? ⟨y, 1, none⟩ = some (.int .i64 ((rd_T122 u l).f1)) := zy q 1
          have t2 : wc.cell? ⟨y, 2, none⟩ = some (.int .i64 ((rd_T122 u l).f2)) := zy q 2
          have x2 := zf q.out 0
          have y2 := zf q.out 1
          have A2 := zf q.out 2
          go_wp2
          go_meet
          case rel => exact ⟨_, (false), zR, H', ⟨by have := z.out; have := A.out; have := B.out; first | omega | exact Nat.le_refl _⟩, ⟨zM q⟩, ⟨zB⟩⟩
        rw [if_pos B1] at H
        have O2 := z1 B1
        clear B1
        have H' := zK H
        clear H
        have B2 : wc.cell? ⟨y, 0, none⟩ = some (.int .i64 ((rd_T122 u l).f0)) := zy q 0
        have C2 : wc.cell? ⟨y, 1, none⟩ = some (.int .i64 ((rd_T122 u l).f1)) := zy q 1
        have D2 : wc.cell? ⟨y, 2, none⟩ = some (.int .i64 ((rd_T122 u l).f2)) := zy q 2
        have E2 := zf q.out 0
        have F2 := zf q.out 1
        have G2 := zf q.out 2
        go_wp2
        go_meet
        case rel => exact ⟨_, (decide (((rd_T122 u l).f2) < l)), zR, H', ⟨by have := z.out; have := A.out; have := B.out; first | omega | exact Nat.le_refl _⟩, ⟨zM q⟩, ⟨zB⟩⟩
      replace U1 := Bool.eq_false_iff.mpr U1
      subst U1
      rw [if_neg (show ¬ (false = true) by decide)] at H
      have n3 := zK H
      clear H
      go_upto_if 75 with (fail)
      go_cut [75] (fun v75 wc => ∃ (kq : Nat) (i0 : Bool), v75 = .bool i0 ∧ Aside0 (impl_codeOk.j3 kq a1 l false u (u.length : Int) l i0 ((rd_T122 u l).f0) ((rd_T122 u l).f1) ((rd_T122 u l).f2) = some r) ∧ Aside0 (kq ≤ q4) ∧ Aside0 (wc.heap[y]? = some (.cells #[.int .i64 ((rd_T122 u l).f0), .int .i64 ((rd_T122 u l).f1), .int .i64 ((rd_T122 u l).f2)] 122 (0, 0))) ∧ Aside0 (Below w.heap.size w wc))
      case first =>
       have H := n3.out
       clear n3
       by_cases m0 : ((rd_T122 u l).f0) = 6
       · rw [if_pos m0] at H
         have T := beq_iff_eq.mpr m0
         have R2 := bne_eq_false_iff_eq.mpr m0
         clear m0
         (first | rw [T] | (simp only [i64_w, i32_w]; rw [T]) | skip)
         have H' := zK H
         clear H
         go_wp2
         go_meet
         case rel => exact ⟨_, ((((rd_T122 u l).f0) == 6)), zR, H', ⟨by have := z.out; have := A.out; have := B.out; first | omega | exact Nat.le_refl _⟩, ⟨zM q⟩, ⟨zB⟩⟩
       rw [if_neg m0] at H
       have T := beq_eq_false_iff_ne.mpr m0
       have R2 := bne_iff_ne.mpr m0
       (first | rw [T] | (simp only [i64_w, i32_w]; rw [T]) | skip)
       by_cases n0 : ((rd_T122 u l).f0) = 7
       · rw [if_pos n0] at H
         have T2 := beq_iff_eq.mpr n0
         have U2 := bne_eq_false_iff_eq.mpr n0
         clear n0
         have H' := zK H
         clear H
         go_wp2
         go_meet
         case rel => exact ⟨_, ((((rd_T122 u l).f0) == 7)), zR, H', ⟨by have := z.out; have := A.out; have := B.out; first | omega | exact Nat.le_refl _⟩, ⟨zM q⟩, ⟨zB⟩⟩
       rw [if_neg n0] at H
       have T2 := beq_eq_false_iff_ne.mpr n0
       have U2 := bne_iff_ne.mpr n0
       by_cases o0 : ((rd_T122 u l).f0) = 8
       rotate_left
       · rw [if_neg o0] at H
         have V2 := beq_eq_false_iff_ne.mpr o0
         have X2 := bne_iff_ne.mpr o0
         have H' := zK H
         clear H
         go_wp2
         go_meet
         case rel => exact ⟨_, ((((rd_T122 u l).f0) == 9)), zR, H', ⟨by have := z.out; have := A.out; have := B.out; first | omega | exact Nat.le_refl _⟩, ⟨zM q⟩, ⟨zB⟩⟩
       rw [if_pos o0] at H
       have V2 := beq_iff_eq.mpr o0
       have X2 := bne_eq_false_iff_eq.mpr o0
       clear o0
       have H' := zK H
       clear H
       go_wp2
       go_meet
       case rel => exact ⟨_, ((((rd_T122 u l).f0) == 8)), zR, H', ⟨by have := z.out; have := A.out; have := B.out; first | omega | exact Nat.le_refl _⟩, ⟨zM q⟩, ⟨zB⟩⟩
      case rest =>
       clear n3
       try clear c1
       try clear c2
       try clear p2
       try clear c3
       try clear p3
       try clear q3
       try clear i4
       try clear c4
       try clear J
       try clear p0
       try clear c5
       try clear c6
       try clear J2
       try clear c7
       try clear g3
       try clear c8
       try clear l3
       try clear U
       try clear E
       try clear D1
       try clear d0
       try clear E1
       try clear e0
       try clear F1
       try clear X
       try clear G1
       try clear I1
       try clear O1
       try clear a0
       try clear I
       try clear J1
       try clear b0
       try clear L1
       try clear M1
       try clear U1
       try clear y1
       try clear M2
       try clear A1
       try clear N2
       try clear B1
       try clear O2
       try clear l4
       try clear m4
       try clear s4
       try clear m0
       try clear T
       try clear R2
       try clear n0
       try clear T2
       try clear U2
       try clear o0
       try clear V2
       try clear X2
       try clear t0 x0 y0 B0 C0 D0
       try clear U0 V0 X0 b1 d1 e1
       try clear M0 N0 O0 R0 S0 T0
       try clear E0 F0 G0 I0 J0 L0
       try clear g1 i1 j1 l1 m1 n1
       try clear o1 p1 q1 s1 t1 x1
       try clear B2 C2 D2 E2 F2 G2
       try clear q2 s2 t2 x2 y2 A2
       try clear g2 i2 l2 m2 n2 o2
       try clear V1 X1 a2 b2 d2 e2
       try clear L
       try clear M
       try clear O
       try clear p2
       try clear p3
       try clear q0
       try clear q3
       try clear s0
       obtain ⟨kq, i0, rfl, HA, a3, q, HB⟩ := hcut
       cases kq with
       | zero => exact absurd HA.out (by simp [impl_codeOk.j3])
       | succ O4 =>
        have H := HA.out
        clear HA
        simp only [impl_codeOk.j3] at H
        by_cases e3 : i0 = true
        rotate_left
        · replace e3 := Bool.eq_false_iff.mpr e3
          subst e3
          rw [if_neg (show ¬ (false = true) by decide)] at H
          have H' := zK H
          clear H
          go_wp2
          go_meet
          case rel => exact ⟨_, (false), zR, H', ⟨by have := z.out; have := A.out; have := B.out; have := a3.out; first | omega | exact Nat.le_refl _⟩, ⟨zM q⟩, ⟨zB⟩⟩
        subst e3
        rw [if_pos rfl] at H
        by_cases R1 : ((rd_T122 u l).f1) ≥ 0
        rotate_left
        · rw [if_neg R1] at H
          have o3 := z2 R1
          clear R1
          have H' := zK H
          clear H
          have x3 : wc.cell? ⟨y, 0, none⟩ = some (.int .i64 ((rd_T122 u l).f0)) := zy q 0
          have y3 : wc.cell? ⟨y, 1, none⟩ = some (.int .i64 ((rd_T122 u l).f1)) := zy q 1
          have A3 : wc.cell? ⟨y, 2, none⟩ = some (.int .i64 ((rd_T122 u l).f2)) := zy q 2
          have B3 := zf q.out 0
          have C3 := zf q.out 1
          have D3 := zf q.out 2
          go_wp2
          go_meet
          case rel => exact ⟨_, (false), zR, H', ⟨by have := z.out; have := A.out; have := B.out; have := a3.out; first | omega | exact Nat.le_refl _⟩, ⟨zM q⟩, ⟨zB⟩⟩
        rw [if_pos R1] at H
        have o3 := z1 R1
        clear R1
        by_cases S1 : ((rd_T122 u l).f1) < l
        rotate_left
        · rw [if_neg S1] at H
          have s3 := z2 S1
          clear S1
          have H' := zK H
          clear H
          have E3 : wc.cell? ⟨y, 0, none⟩ = some (.int .i64 ((rd_T122 u l).f0)) := zy q 0
          have F3 : wc.cell? ⟨y, 1, none⟩ = some (.int .i64 ((rd_T122 u l).f1)) := zy q 1
          have G3 : wc.cell? ⟨y, 2, none⟩ = some (.int .i64 ((rd_T122 u l).f2)) := zy q 2
          have I3 := zf q.out 0
          have J3 := zf q.out 1
          have L3 := zf q.out 2
          go_wp2
          go_meet
          case rel => exact ⟨_, (false), zR, H', ⟨by have := z.out; have := A.out; have := B.out; have := a3.out; first | omega | exact Nat.le_refl _⟩, ⟨zM q⟩, ⟨zB⟩⟩
        rw [if_pos S1] at H
        have s3 := z1 S1
        clear S1
        have H' := zK H
        clear H
        have M3 : wc.cell? ⟨y, 0, none⟩ = some (.int .i64 ((rd_T122 u l).f0)) := zy q 0
        have N3 : wc.cell? ⟨y, 1, none⟩ = some (.int .i64 ((rd_T122 u l).f1)) := zy q 1
        have O3 : wc.cell? ⟨y, 2, none⟩ = some (.int .i64 ((rd_T122 u l).f2)) := zy q 2
        have R3 := zf q.out 0
        have S3 := zf q.out 1
        have T3 := zf q.out 2
        go_wp2
        go_meet
        case rel => exact ⟨_, ((((rd_T122 u l).f2) == 0)), zR, H', ⟨by have := z.out; have := A.out; have := B.out; have := a3.out; first | omega | exact Nat.le_refl _⟩, ⟨zM q⟩, ⟨zB⟩⟩
   case rest =>
    clear V3
    try clear c1
    try clear c2
    try clear p2
    try clear c3
    try clear p3
    try clear q3
    try clear i4
    try clear c4
    try clear J
    try clear p0
    try clear c5
    try clear c6
    try clear J2
    try clear c7
    try clear g3
    try clear c8
    try clear l3
    try clear U
    try clear E
    try clear D1
    try clear d0
    try clear E1
    try clear e0
    try clear F1
    try clear X
    try clear G1
    try clear I1
    try clear O1
    try clear a0
    try clear I
    try clear J1
    try clear b0
    try clear L1
    try clear M1
    try clear U1
    try clear y1
    try clear M2
    try clear A1
    try clear N2
    try clear B1
    try clear O2
    try clear l4
    try clear m4
    try clear s4
    try clear m0
    try clear T
    try clear R2
    try clear n0
    try clear T2
    try clear U2
    try clear o0
    try clear V2
    try clear X2
    try clear e3
    try clear R1
    try clear o3
    try clear S1
    try clear s3
    try clear t0 x0 y0 B0 C0 D0
    try clear U0 V0 X0 b1 d1 e1
    try clear M0 N0 O0 R0 S0 T0
    try clear E0 F0 G0 I0 J0 L0
    try clear g1 i1 j1 l1 m1 n1
    try clear o1 p1 q1 s1 t1 x1
    try clear B2 C2 D2 E2 F2 G2
    try clear q2 s2 t2 x2 y2 A2
    try clear g2 i2 l2 m2 n2 o2
    try clear V1 X1 a2 b2 d2 e2
    try clear M3 N3 O3 R3 S3 T3
    try clear E3 F3 G3 I3 J3 L3
    try clear x3 y3 A3 B3 C3 D3
    try clear L
    try clear M
    try clear O
    try clear p2
    try clear p3
    try clear l4
    try clear q0
    try clear q3
    try clear m4
    try clear s0
    obtain ⟨kq, L2, rfl, HA, n4, q, HB⟩ := hcut
    cases kq with
    | zero => exact absurd HA.out (by simp [impl_codeOk.j4])
    | succ G4 =>
     have H := HA.out
     clear HA
     simp only [impl_codeOk.j4] at H
     by_cases t3 : L2 = true
     rotate_left
     · replace t3 := Bool.eq_false_iff.mpr t3
       subst t3
       rw [if_neg (show ¬ (false = true) by decide)] at H
       obtain rfl := z5 H
       go_wp2
       go_ret
       exact ⟨zE, zB⟩
     subst t3
     rw [if_pos rfl] at H
     have H' := zK H
     clear H
     go_wp2
     go_roundg G4
     case measure => have := z.out; have := A.out; have := n4.out; omega
     case rel => exact ⟨(wrap64 (l + 1)), zR, H', ⟨by have := z.out; have := A.out; have := n4.out; omega⟩, ⟨zB⟩⟩
end Go.Proofs.Ytmcboiffbcnalaa.PFnExactLives
