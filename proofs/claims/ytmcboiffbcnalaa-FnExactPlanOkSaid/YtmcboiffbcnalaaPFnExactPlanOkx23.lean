-- Printed out of the translation by this session's own turned copy of a printer; Lean checks it.
import Derived.Test.YtmcboiffbcnalaaPFnExactPlanOkx0
namespace Go.Proofs.Ytmcboiffbcnalaa.PFnExactPlanOk
open Go.RowKit Go.Proofs.YtmcboiffbcnalaaW.PrintWords Go.Proofs.YtmcboiffbcnalaaW.PrintLast Go.Proofs.YtmcboiffbcnalaaW.PrintMore
attribute [local go_sem] max2_int min2_int max_two min_two max_three min_three max_four min_four
set_option linter.unusedVariables false
set_option linter.unusedSimpArgs false
set_option maxHeartbeats 8000000
set_option maxRecDepth 100000
mutual
def impl_livesOk.l0 : Nat → List (S52) → List (S52) → Int → Int → Option (Bool)
 | 0, _, _, _, _ => none
 | k + 1, q, l, u, a => if a < u then (if 0 ≤ a then (if a < (l.length : Int) then (if ((rd_T52 l a).f1) < 1 then (impl_livesOk.j1 k q l u a true) else (if ((rd_T52 l a).f1) > 4096 then (impl_livesOk.j1 k q l u a true) else (if ((rd_T52 l a).f2) < 0 then (impl_livesOk.j1 k q l u a true) else (if ((rd_T52 l a).f2) > ((rd_T52 l a).f3) then (impl_livesOk.j1 k q l u a true) else (impl_livesOk.j1 k q l u a (decide (((rd_T52 l a).f3) > 400))))))) else (none)) else (none)) else (some (decide ((q.length : Int) ≤ 200)))
def impl_livesOk.j1 : Nat → List (S52) → List (S52) → Int → Int → Bool → Option (Bool)
 | 0, _, _, _, _, _ => none
 | k + 1, l, q, u, x, a => if a = true then (some false) else (impl_livesOk.l0 k l q u (wrap64 (x + 1)))
end
def impl_livesOk.f (k : Nat) (a : List (S52)) : Option (Bool) := impl_livesOk.l0 k a a (a.length : Int) 0
theorem impl_livesOk.calls (k) (A0) (c0) (q : List (S52)) (r : Bool) (w) (F1 : Kd.C k52 w A0 q.length q) (G1 : q.length ≤ c0) (h : impl_livesOk.f k q = some r) :
 Calls Try.prog 51 #[.slice A0 q.length c0] w fun e w' => e = .returned (.bool r) ∧ Below w.heap.size w w' := by
 have e2 := Try.underlying52
 have R1 := zK F1
 have g2 := zK G1
 clear F1 G1
 have HB := zK (Below.refl w.heap.size w)
 have H : (impl_livesOk.l0 k q q (q.length : Int) 0) = some r := h
 clear h
 have H' := zK H
 clear H
 go_enter Try.func51, Try.ntmps51
 go_wp2
 go_loopg [7] k (fun kq v7 w' => ∃ (a : Int), v7 = .int .i64 a ∧ Aside0 (impl_livesOk.l0 kq q q (q.length : Int) a = some r) ∧ Aside0 (kq ≤ k) ∧ Aside0 (Below w.heap.size w w'))
 case atStart => exact ⟨(0), zR, H', ⟨Nat.le_refl _⟩, ⟨zB⟩⟩
 clear H'
 obtain ⟨a, rfl, HA, D, HB⟩ := hrel
 rcases gk with _ | k1
 · exact absurd HA.out (by simp [impl_livesOk.l0])
 have H := HA.out
 clear HA
 simp only [impl_livesOk.l0] at H
 by_cases O : a < (q.length : Int)
 rotate_left
 · rw [if_neg O] at H
   have a1 := z2 O
   clear O
   obtain rfl := z5 H
   go_wp2
   go_ret
   exact ⟨zE, zB⟩
 rw [if_pos O] at H
 have a1 := z1 O
 clear O
 by_cases c3 : 0 ≤ a
 rotate_left
 · rw [if_neg c3] at H
   exact absurd H (by simp)
 rw [if_pos c3] at H
 have J1 := z1 c3
 clear c3
 by_cases c4 : a < (q.length : Int)
 rotate_left
 · rw [if_neg c4] at H
   exact absurd H (by simp)
 rw [if_pos c4] at H
 have L1 := z1 c4
 clear c4
 have e1 := zK H
 clear H
 have L : 0 ≤ (a : Int) := z3
 have M : a < (q.length : Int) := z3
 obtain ⟨a2, M1, u, x, y, z⟩ := at_T52 R1.out a L M
 cases M1
 (try replace u := zX HB u)
 (try replace x := zX HB x)
 (try replace y := zX HB y)
 (try replace z := zX HB z)
 replace L := eq_true L
 replace M := eq_true M
 go_upto_region 4 with (first | ((with_reducible refine gd 4 rfl ?_); refine zJ 4 #[.int .i64 0, .int .i64 0, .int .i64 0, .int .i64 0] 52 ?_; intro E1 hg w6 hbox hb; have S1 := z8 hb; have T1 := zK (hbox); have U1 := z9 hg; have V1 := z9 hg; revert S1 T1 U1 V1; clear HB; intro HB l b2 d2; clear hb hbox hg; obtain ⟨g1, i1, l1, m1, n1, o1, p1, q1⟩ := zc4 l))
 (try simp only [Act.put, zq1, zq2, zq3])
 go_cut [35] (fun v35 wc => ∃ (kq : Nat) (B : Bool), v35 = .bool B ∧ Aside0 (impl_livesOk.j1 kq q q (q.length : Int) a B = some r) ∧ Aside0 (kq ≤ k1) ∧ Aside0 (wc.heap[E1]? = some (.cells #[.int .i64 ((rd_T52 q a).f0), .int .i64 ((rd_T52 q a).f1), .int .i64 ((rd_T52 q a).f2), .int .i64 ((rd_T52 q a).f3)] 52 (0, 0))) ∧ Aside0 (Below w.heap.size w wc))
 case first =>
  have H := e1.out
  clear e1
  by_cases T : ((rd_T52 q a).f1) < 1
  · rw [if_pos T] at H
    have A := z1 T
    clear T
    (first | rw [A] | (simp only [i64_w, i32_w]; rw [A]) | skip)
    have H' := zK H
    clear H
    obtain ⟨s1, t1, x1, y1, A1, B1, C1, D1⟩ := zc4 l
    go_wp2
    go_meet
    case rel => exact ⟨_, (true), zR, H', ⟨by have := D.out; first | omega | exact Nat.le_refl _⟩, ⟨zW l⟩, ⟨zB⟩⟩
  rw [if_neg T] at H
  have A := z2 T
  clear T
  (first | rw [A] | (simp only [i64_w, i32_w]; rw [A]) | skip)
  by_cases E : ((rd_T52 q a).f1) > 4096
  · rw [if_pos E] at H
    have U := z1 E
    clear E
    have H' := zK H
    clear H
    obtain ⟨d0, e0, g0, i0, j0, m0, n0, o0⟩ := zc4 l
    go_wp2
    go_meet
    case rel => exact ⟨_, (true), zR, H', ⟨by have := D.out; first | omega | exact Nat.le_refl _⟩, ⟨zW l⟩, ⟨zB⟩⟩
  rw [if_neg E] at H
  have U := z2 E
  clear E
  by_cases I : ((rd_T52 q a).f2) < 0
  · rw [if_pos I] at H
    have X := z1 I
    clear I
    have H' := zK H
    clear H
    obtain ⟨p0, q0, s0, t0, x0, y0, B0, C0⟩ := zc4 l
    go_wp2
    go_meet
    case rel => exact ⟨_, (true), zR, H', ⟨by have := D.out; first | omega | exact Nat.le_refl _⟩, ⟨zW l⟩, ⟨zB⟩⟩
  rw [if_neg I] at H
  have X := z2 I
  clear I
  by_cases J : ((rd_T52 q a).f2) > ((rd_T52 q a).f3)
  · rw [if_pos J] at H
    have a0 := z1 J
    clear J
    have H' := zK H
    clear H
    obtain ⟨D0, E0, F0, G0, I0, J0, L0, M0⟩ := zc4 l
    go_wp2
    go_meet
    case rel => exact ⟨_, (true), zR, H', ⟨by have := D.out; first | omega | exact Nat.le_refl _⟩, ⟨zW l⟩, ⟨zB⟩⟩
  rw [if_neg J] at H
  have a0 := z2 J
  clear J
  have H' := zK H
  clear H
  obtain ⟨N0, O0, R0, S0, T0, U0, V0, X0⟩ := zc4 l
  go_wp2
  go_meet
  case rel => exact ⟨_, (decide (((rd_T52 q a).f3) > 400)), zR, H', ⟨by have := D.out; first | omega | exact Nat.le_refl _⟩, ⟨zW l⟩, ⟨zB⟩⟩
 case rest =>
  clear e1
  try clear c1
  try clear O
  try clear a1
  try clear p2
  try clear c3
  try clear J1
  try clear c4
  try clear L1
  try clear p4
  try clear q4
  try clear i2
  try clear c5
  try clear T
  try clear A
  try clear E
  try clear U
  try clear I
  try clear X
  try clear J
  try clear a0
  try clear d0 e0 g0 i0 j0 m0 n0 o0
  try clear p0 q0 s0 t0 x0 y0 B0 C0
  try clear D0 E0 F0 G0 I0 J0 L0 M0
  try clear N0 O0 R0 S0 T0 U0 V0 X0
  try clear g1 i1 l1 m1 n1 o1 p1 q1
  try clear s1 t1 x1 y1 A1 B1 C1 D1
  try clear u
  try clear x
  try clear y
  try clear z
  try clear L
  try clear M
  obtain ⟨kq, B, rfl, HA, I1, l, HB⟩ := hcut
  cases kq with
  | zero => exact absurd HA.out (by simp [impl_livesOk.j1])
  | succ X1 =>
   have H := HA.out
   clear HA
   simp only [impl_livesOk.j1] at H
   by_cases b0 : B = true
   · subst b0
     rw [if_pos rfl] at H
     obtain rfl := z5 H
     go_wp2
     go_ret
     exact ⟨zE, zB⟩
   replace b0 := Bool.eq_false_iff.mpr b0
   subst b0
   rw [if_neg (show ¬ (false = true) by decide)] at H
   have H' := zK H
   clear H
   go_wp2
   go_roundg X1
   case measure => have := D.out; have := I1.out; omega
   case rel => exact ⟨(wrap64 (a + 1)), zR, H', ⟨by have := D.out; have := I1.out; omega⟩, ⟨zB⟩⟩
def impl_Life_meets.f (x : Int) (y : Int) (a : Int) (l : Int) (z : Int) (A : Int) (q : Int) (u : Int) : Option (Bool) := if a ≤ u then (some (decide (q ≤ l))) else (some false)
theorem impl_Life_meets.calls (A) (B) (l) (u) (D) (E) (x) (q) (r : Bool) (w) (h : impl_Life_meets.f A B l u D E x q = some r) :
 Calls Try.prog 52 #[.agg #[.int .i64 A, .int .i64 B, .int .i64 l, .int .i64 u], .agg #[.int .i64 D, .int .i64 E, .int .i64 x, .int .i64 q]] w fun e w' => e = .returned (.bool r) ∧ Below w.heap.size w w' := by
 have I0 := Try.underlying52
 have HB := zK (Below.refl w.heap.size w)
 have H : (if l ≤ q then (some (decide (x ≤ u))) else (some false)) = some r := h
 clear h
 by_cases I : l ≤ q
 rw [if_pos I] at H
 have U := z1 I
 clear I
 obtain rfl := z5 H
 rotate_left
 rw [if_neg I] at H
 have U := z2 I
 clear I
 obtain rfl := z5 H
 all_goals go_enter Try.func52, Try.ntmps52
 all_goals go_wp2_with (first | ((with_reducible refine gd 2 rfl ?_); refine zJ 2 #[.int .i64 A, .int .i64 B, .int .i64 l, .int .i64 u] 52 ?_; intro y0 hg w9 hbox hb; have J := z8 hb; have L := zK (hbox); have M := z9 hg; have O := z9 hg; revert J L M O; clear HB; intro HB a A0 B0; clear hb hbox hg) | ((with_reducible refine gd 3 rfl ?_); refine zJ 3 #[.int .i64 D, .int .i64 E, .int .i64 x, .int .i64 q] 52 ?_; intro C0 hg J0 hbox hb; have J := z7 a hb; have L := z8 hb; have M := zK (hbox); have O := z9 hg; have s0 := z9 hg; have t0 := zHH hg a; have x0 := zGG hg a; revert J L M O s0 t0 x0; clear a HB; intro a HB T D0 E0 y z; clear hb hbox hg; have F0 := y.out; have G0 := z.out; obtain ⟨X, a0, b0, c0, d0, e0, f0, g0⟩ := zc4 a; obtain ⟨i0, j0, l0, m0, n0, o0, p0, q0⟩ := zc4 T))
 all_goals go_ret
 all_goals exact ⟨zE, zB⟩
end Go.Proofs.Ytmcboiffbcnalaa.PFnExactPlanOk
