-- Printed out of the translation by this session's own turned copy of a printer; Lean checks it.
import Derived.Test.YtmcboiffbcnalaaPFnExactPlanOkx0
import Derived.Test.YtmcboiffbcnalaaPFnExactPlanOkx2
import Derived.Test.YtmcboiffbcnalaaPFnExactPlanOkx5
namespace Go.Proofs.Ytmcboiffbcnalaa.PFnExactPlanOk
open Go.RowKit Go.Proofs.YtmcboiffbcnalaaW.PrintWords Go.Proofs.YtmcboiffbcnalaaW.PrintLast Go.Proofs.YtmcboiffbcnalaaW.PrintMore
attribute [local go_sem] max2_int min2_int max_two min_two max_three min_three max_four min_four
set_option linter.unusedVariables false
set_option linter.unusedSimpArgs false
set_option maxHeartbeats 8000000
set_option maxRecDepth 100000
mutual
def spec_NestOk.j0 : Nat → Bool → List Int → List Int → List (S71) → List (S79) → List Int → Option (Bool)
 | 0, _, _, _, _, _, _ => none
 | k + 1, y, a, l, q, u, x => if y = true then (some false) else (spec_NestOk.l0 k 0 a l q u x)
def spec_NestOk.l0 : Nat → Int → List Int → List Int → List (S71) → List (S79) → List Int → Option (Bool)
 | 0, _, _, _, _, _, _ => none
 | k + 1, y, a, l, q, u, x => if y < (a.length : Int) then (if 0 ≤ y then (if (rd a y) < 0 then (some false) else (if (rd a y) > 4096 then (some false) else (spec_NestOk.l0 k (wrap64 (y + 1)) a l q u x))) else (none)) else (spec_NestOk.l1 k (([] : List Int)) 0 a l q u x)
def spec_NestOk.l1 : Nat → List Int → Int → List Int → List Int → List (S71) → List (S79) → List Int → Option (Bool)
 | 0, _, _, _, _, _, _, _ => none
 | k + 1, z, y, l, a, q, u, x => if y < (a.length : Int) then (if 0 ≤ y then ((spec_l7Has.f k z (rd a y)).bind fun A => (if A = true then (some false) else (if z.length < 17592186044416 then (spec_NestOk.l1 k (z ++ [rd a y]) (wrap64 (y + 1)) l a q u x) else (none)))) else (none)) else (spec_NestOk.l2 k z 0 l a q u x)
def spec_NestOk.l2 : Nat → List Int → Int → List Int → List Int → List (S71) → List (S79) → List Int → Option (Bool)
 | 0, _, _, _, _, _, _, _ => none
 | k + 1, z, y, l, q, a, u, x => if y < (a.length : Int) then (if 0 ≤ y then (if ((rd_T71 a y).f0) < 0 then (spec_NestOk.j4 k z y ((rd_T71 a y).f0) true l q a u x) else (if ((rd_T71 a y).f0) ≥ (l.length : Int) then (spec_NestOk.j4 k z y ((rd_T71 a y).f0) true l q a u x) else ((spec_l7Has.f k z ((rd_T71 a y).f0)).bind fun A => (if A = true then (spec_NestOk.j4 k z y ((rd_T71 a y).f0) true l q a u x) else (if 0 ≤ ((rd_T71 a y).f0) then (if ((rd_T71 a y).f0) < (l.length : Int) then (if (((rd_T71 a y).f1).length : Int) = (rd l ((rd_T71 a y).f0)) then (if (((rd_T71 a y).f1).length : Int) > 0 then ((spec_l5RowOk.f k ((rd_T71 a y).f1)).bind fun B => (spec_NestOk.j4 k z y ((rd_T71 a y).f0) (!B) l q a u x)) else (spec_NestOk.j4 k z y ((rd_T71 a y).f0) false l q a u x)) else (spec_NestOk.j4 k z y ((rd_T71 a y).f0) true l q a u x)) else (none)) else (none)))))) else (none)) else (spec_NestOk.l3 k z 0 0 l q a u x)
def spec_NestOk.j4 : Nat → List Int → Int → Int → Bool → List Int → List Int → List (S71) → List (S79) → List Int → Option (Bool)
 | 0, _, _, _, _, _, _, _, _, _ => none
 | k + 1, z, A, B, y, a, l, q, u, x => if y = true then (some false) else (if z.length < 17592186044416 then (spec_NestOk.l2 k (z ++ [B]) (wrap64 (A + 1)) a l q u x) else (none))
def spec_NestOk.l3 : Nat → List Int → Int → Int → List Int → List Int → List (S71) → List (S79) → List Int → Option (Bool)
 | 0, _, _, _, _, _, _, _, _ => none
 | k + 1, D, E, l, q, u, x, a, y => if l < (a.length : Int) then (if 0 ≤ l then ((spec_l11Kernel.f k ((rd_T79 a l).f0) ((rd_T79 a l).f1) ((rd_T79 a l).f2.f0) ((rd_T79 a l).f2.f1) ((rd_T79 a l).f2.f2) ((rd_T79 a l).f3) ((rd_T79 a l).f4) q).bind fun z => (if z = true then ((spec_l7Has.f k D ((rd_T79 a l).f2.f0)).bind fun A => (if A = true then (some false) else ((spec_l11Product.f k ((rd_T79 a l).f0)).bind fun B => (spec_NestOk.l3 k D (wrap64 (E + B)) (wrap64 (l + 1)) q u x a y)))) else (some false))) else (none)) else (some (decide (E ≤ 1000000)))
end
def spec_NestOk.f (k : Nat) (a : List Int) (l : List Int) (x : List (S71)) (u : List (S79)) (q : List Int) : Option (Bool) := if (a.length : Int) > 200 then (spec_NestOk.j0 k true a l x u q) else (if (l.length : Int) > 40 then (spec_NestOk.j0 k true a l x u q) else (if (q.length : Int) > 40 then (spec_NestOk.j0 k true a l x u q) else (if (u.length : Int) > 400 then (spec_NestOk.j0 k true a l x u q) else ((spec_l4Within.f k l (a.length : Int)).bind fun y => (if y = true then ((spec_l4Within.f k q (a.length : Int)).bind fun z => (spec_NestOk.j0 k (!z) a l x u q)) else (spec_NestOk.j0 k true a l x u q))))))
def spec_NestOk.T19 : Bool × List (List Nat × List Nat) := (true, [([], []), ([0], [0]), ([1], [1]), ([2], [2]), ([2], [2]), ([4, 2], [2, 4]), ([5, 2], [2, 5]), ([3, 6, 2], [2, 3, 6]), ([2, 7], [2, 7]), ([8, 2], [8]), ([9], [9]), ([9], [9]), ([10, 11, 9, 9], [9, 10, 11]), ([9, 12], [9, 12]), ([13, 12], [13]), ([14], [14]), ([15, 14], [14, 15]), ([14], [14]), ([16, 17, 14], [14, 16, 17]), ([18, 14], [14, 18]), ([19, 14], [14, 19]), ([20, 14], [14, 20]), ([14], [14]), ([22, 14], [14, 22]), ([14], [14]), ([23, 24, 14], [14, 23, 24]), ([25, 14], [14, 25]), ([21, 26, 14], [14, 21, 26]), ([14, 27], [14, 27]), ([28, 14], [28]), ([29], [29]), ([30, 29], [29, 30]), ([29], [29]), ([31, 32, 29], [29, 31, 32]), ([33, 29], [29, 33]), ([34, 29], [29, 34]), ([35, 29], [29, 35]), ([36, 29], [29, 36]), ([37, 29, 29], [29, 37]), ([38], [38]), ([39, 38], [38, 39]), ([38], [38]), ([40, 41, 38], [38, 40, 41]), ([42, 38], [38, 42]), ([43, 38], [38, 43]), ([44, 38, 38], [38, 44]), ([45, 38], [38, 45]), ([38, 46, 29], [29, 38, 46]), ([29, 47], [29, 47])])
def spec_NestOk.B19 : List Nat := [0, 1, 3, 7, 7, 23, 55, 127, 255, 511, 1023, 1023, 4095, 8191, 16383, 32767, 65535, 32767, 262143, 524287, 1048575, 2097151, 32767, 4227071, 32767, 29392895, 62947327, 134217727, 268435455, 536870911, 1073741823, 2147483647, 1073741823, 8589934591, 17179869183, 34359738367, 68719476735, 137438953471, 274877906943, 549755813887, 1099511627775, 549755813887, 4398046511103, 8796093022207, 17592186044415, 35184372088831, 70368744177663, 140737488355327, 281474976710655]
theorem spec_NestOk.tab19 : rtab .any (opsOf Try.f20 19) = spec_NestOk.T19 := by kernel_rfl
theorem spec_NestOk.bits19 : waitsOk spec_NestOk.T19.2 spec_NestOk.B19 = true := by kernel_rfl
def spec_NestOk.T26 : Bool × List (List Nat × List Nat) := (true, [([], []), ([0], [0]), ([], []), ([1, 2], [1, 2]), ([3], [3]), ([], []), ([5], [5]), ([4, 6], [4, 6]), ([7], [7]), ([8, 7], [8]), ([9], [9]), ([9], [9]), ([11, 9], [9, 11]), ([9], [9]), ([12, 13, 9], [9, 12, 13]), ([14, 9], [9, 14]), ([15, 9], [9, 15]), ([16, 9], [9, 16]), ([10, 17, 9, 9], [9, 10, 17]), ([9, 18], [9, 18])])
def spec_NestOk.B26 : List Nat := [0, 1, 0, 7, 15, 0, 32, 127, 255, 511, 1023, 1023, 3071, 1023, 15359, 31743, 64511, 130047, 262143, 524287]
theorem spec_NestOk.tab26 : rtab .any (opsOf Try.f20 26) = spec_NestOk.T26 := by kernel_rfl
theorem spec_NestOk.bits26 : waitsOk spec_NestOk.T26.2 spec_NestOk.B26 = true := by kernel_rfl
theorem spec_NestOk.calls (k) (J0) (y0) (A : List Int) (L0) (M0) (D : List Int) (U2) (N0) (x : List (S71)) (T1) (O0) (q : List (S79)) (R0) (S0) (I : List Int) (r : Bool) (w) (a0l : Kd.C (Kd.int .i64) w J0 A.length A) (a0m : A.length ≤ y0) (a0n : Kd.C (Kd.int .i64) w L0 D.length D) (a0o : D.length ≤ M0) (a0p : Kd.C k71 w U2 x.length x) (a0q : x.length ≤ N0) (a0s : Kd.C k79 w T1 q.length q) (a0t : q.length ≤ O0) (a0u : Kd.C (Kd.int .i64) w R0 I.length I) (a0x : I.length ≤ S0) (h : spec_NestOk.f k A D x q I = some r) :
 Calls Try.prog 20 #[.agg #[.slice J0 A.length y0, .slice L0 D.length M0, .slice U2 x.length N0, .slice T1 q.length O0, .slice R0 I.length S0]] w fun e w' => e = .returned (.bool r) ∧ Below w.heap.size w w' := by
 have b2u := Try.underlying34
 have b2x := Try.underlying79
 have U1 := zK a0l
 have p9 := zK a0m
 clear a0l a0m
 have d5 := zK a0n
 have a0y := zK a0o
 clear a0n a0o
 have E3 := zK a0p
 have b2l := zK a0q
 clear a0p a0q
 have O3 := zK a0s
 have b2m := zK a0t
 clear a0s a0t
 have a5t := zK a0u
 have a5u := zK a0x
 clear a0u a0x
 have HB := zK (Below.refl w.heap.size w)
 have H : (if (A.length : Int) > 200 then (spec_NestOk.j0 k true A D x q I) else (if (D.length : Int) > 40 then (spec_NestOk.j0 k true A D x q I) else (if (I.length : Int) > 40 then (spec_NestOk.j0 k true A D x q I) else (if (q.length : Int) > 400 then (spec_NestOk.j0 k true A D x q I) else ((spec_l4Within.f k D (A.length : Int)).bind fun T9 => (if T9 = true then ((spec_l4Within.f k I (A.length : Int)).bind fun q9 => (spec_NestOk.j0 k (!q9) A D x q I)) else (spec_NestOk.j0 k true A D x q I))))))) = some r := h
 clear h
 have HC2 := zK H
 clear H
 go_enter Try.func20, Try.ntmps20
 go_upto_region 1 with (first | ((with_reducible refine gd 1 rfl ?_); (try (refine gate_guard (by rfl) ?_; dsimp only)); refine zJ 1 #[.slice J0 A.length y0, .slice L0 D.length M0, .slice U2 x.length N0, .slice T1 q.length O0, .slice R0 I.length S0] 34 ?_; intro B hg w3 hbox hb; have n0 := z8 hb; have o0 := zK (hbox); have p0 := z9 hg; have n3_ := z9 hg; revert n0 o0 p0 n3_; clear HB; intro HB a b2n b2o; clear hb hbox hg))
 (try simp only [Act.put, zq1, zq2, zq3])
 go_cut [49] (fun v49 wc => ∃ (kq : Nat) (U6 : Bool), v49 = .bool U6 ∧ Aside0 (spec_NestOk.j0 kq U6 A D x q I = some r) ∧ Aside0 (kq ≤ k) ∧ Aside0 (wc.heap[B]? = some (.cells #[(.slice J0 A.length y0), (.slice L0 D.length M0), (.slice U2 x.length N0), (.slice T1 q.length O0), (.slice R0 I.length S0)] 34 (0, 0))) ∧ Aside0 (Below w.heap.size w wc))
 case first =>
  have H := HC2.out
  clear HC2
  by_cases c4 : (A.length : Int) > 200
  · rw [if_pos c4] at H
    have F3 := z1 c4
    have a7 : decide (200 < A.length) = true := z1 (by omega)
    clear c4
    (first | rw [F3] | (simp only [i64_w, i32_w]; rw [F3]) | skip)
    have H' := zK H
    clear H
    obtain ⟨e5, f5, g5, i5, j5, l5, m5, n5, o5, p5⟩ := zc5 a
    go_wp2
    go_meet
    case rel => exact ⟨_, (true), zR, H', ⟨by first | omega | exact Nat.le_refl _⟩, ⟨zM a⟩, ⟨zB⟩⟩
  rw [if_neg c4] at H
  have F3 := z2 c4
  have a7 : decide (200 < A.length) = false := z2 (by omega)
  clear c4
  (first | rw [F3] | (simp only [i64_w, i32_w]; rw [F3]) | skip)
  by_cases c6 : (D.length : Int) > 40
  · rw [if_pos c6] at H
    have c7 := z1 c6
    have d7 : decide (40 < D.length) = true := z1 (by omega)
    clear c6
    have H' := zK H
    clear H
    obtain ⟨q5, t5, x5, y5, A5, B5, C5, D5, E5, F5⟩ := zc5 a
    go_wp2
    go_meet
    case rel => exact ⟨_, (true), zR, H', ⟨by first | omega | exact Nat.le_refl _⟩, ⟨zM a⟩, ⟨zB⟩⟩
  rw [if_neg c6] at H
  have c7 := z2 c6
  have d7 : decide (40 < D.length) = false := z2 (by omega)
  clear c6
  by_cases c8 : (I.length : Int) > 40
  · rw [if_pos c8] at H
    have e7 := z1 c8
    have f7 : decide (40 < I.length) = true := z1 (by omega)
    clear c8
    have H' := zK H
    clear H
    obtain ⟨G5, I5, J5, L5, M5, N5, O5, R5, S5, T5⟩ := zc5 a
    go_wp2
    go_meet
    case rel => exact ⟨_, (true), zR, H', ⟨by first | omega | exact Nat.le_refl _⟩, ⟨zM a⟩, ⟨zB⟩⟩
  rw [if_neg c8] at H
  have e7 := z2 c8
  have f7 : decide (40 < I.length) = false := z2 (by omega)
  clear c8
  by_cases T4 : (q.length : Int) > 400
  · rw [if_pos T4] at H
    have U5 := z1 T4
    have V5 : decide (400 < q.length) = true := z1 (by omega)
    clear T4
    have H' := zK H
    clear H
    obtain ⟨R3, S3, T3, U3, V3, X3, a4, b4, d4, e4⟩ := zc5 a
    go_wp2
    go_meet
    case rel => exact ⟨_, (true), zR, H', ⟨by first | omega | exact Nat.le_refl _⟩, ⟨zM a⟩, ⟨zB⟩⟩
  rw [if_neg T4] at H
  have U5 := z2 T4
  have V5 : decide (400 < q.length) = false := z2 (by omega)
  clear T4
  replace H := z6 H
  obtain ⟨T9, a4c, H⟩ := H
  have A12 := zK a4c
  clear a4c
  by_cases N6 : T9 = true
  rotate_left
  · as_aux_lemma =>
    replace N6 := Bool.eq_false_iff.mpr N6
    subst N6
    rw [if_neg (show ¬ (false = true) by decide)] at H
    have H' := zK H
    clear H
    obtain ⟨g4, i4, l4, m4, n4, o4, p4, q4, t4, x4⟩ := zc5 a
    go_wp2_with (first | (go_at_call 38; (with_reducible refine (spec_l4Within.calls k _ _ D (A.length : Int) false _ ?side1 ?side2 A12.out).mono ?_); (case side1 => exact zS d5); (case side2 => exact a0y.out); rintro e w' ⟨rfl, ⟨nd, rfl⟩⟩))
    go_meet
    case rel => exact ⟨_, (true), zR, H', ⟨by first | omega | exact Nat.le_refl _⟩, ⟨zM a⟩, ⟨zB⟩⟩
  subst N6
  rw [if_pos rfl] at H
  replace H := z6 H
  obtain ⟨q9, a4d, H⟩ := H
  have A14 := zK a4d
  clear a4d
  have H' := zK H
  clear H
  obtain ⟨y4, A4, B4, C4, D4, E4, F4, G4, I4, J4⟩ := zc5 a
  go_wp2_with (first | (go_at_call 38; (with_reducible refine (spec_l4Within.calls k _ _ D (A.length : Int) true _ ?side1 ?side2 A12.out).mono ?_); (case side1 => exact zS d5); (case side2 => exact a0y.out); rintro e w' ⟨rfl, ⟨nd, rfl⟩⟩) | (go_at_call 38; (with_reducible refine (spec_l4Within.calls k _ _ I (A.length : Int) q9 _ ?side1 ?side2 A14.out).mono ?_); (case side1 => exact zS a5t); (case side2 => exact a5u.out); rintro e w' ⟨rfl, ⟨nd, rfl⟩⟩))
  go_meet
  case rel => exact ⟨_, (!q9), zR, H', ⟨by first | omega | exact Nat.le_refl _⟩, ⟨zM a⟩, ⟨zB⟩⟩
 case rest =>
  clear HC2
  try clear c1
  try clear c2
  try clear p2
  try clear c4
  try clear F3
  try clear a7
  try clear c6
  try clear c7
  try clear d7
  try clear c8
  try clear e7
  try clear f7
  try clear T4
  try clear U5
  try clear V5
  try clear N6
  try clear R3 S3 T3 U3 V3 X3 a4 b4 d4 e4
  try clear y4 A4 B4 C4 D4 E4 F4 G4 I4 J4
  try clear g4 i4 l4 m4 n4 o4 p4 q4 t4 x4
  try clear e5 f5 g5 i5 j5 l5 m5 n5 o5 p5
  try clear q5 t5 x5 y5 A5 B5 C5 D5 E5 F5
  try clear G5 I5 J5 L5 M5 N5 O5 R5 S5 T5
  obtain ⟨kq, U6, rfl, HA, a3, a, HB⟩ := hcut
  cases kq with
  | zero => exact absurd HA.out (by simp [spec_NestOk.j0])
  | succ kj1 =>
   have H := HA.out
   clear HA
   simp only [spec_NestOk.j0] at H
   by_cases g7 : U6 = true
   · subst g7
     rw [if_pos rfl] at H
     obtain rfl := z5 H
     go_wp2
     go_ret
     exact ⟨zE, zB⟩
   replace g7 := Bool.eq_false_iff.mpr g7
   subst g7
   rw [if_neg (show ¬ (false = true) by decide)] at H
   have H' := zK H
   clear H
   go_wp2
   go_loopg [3] kj1 (fun kq v3 w' => ∃ (q0 : Int), v3 = .int .i64 q0 ∧ Aside0 (spec_NestOk.l0 kq q0 A D x q I = some r) ∧ Aside0 (kq ≤ kj1) ∧ Aside0 (w'.heap[B]? = some (.cells #[(.slice J0 A.length y0), (.slice L0 D.length M0), (.slice U2 x.length N0), (.slice T1 q.length O0), (.slice R0 I.length S0)] 34 (0, 0))) ∧ Aside0 (Below w.heap.size w w'))
   case atStart => exact ⟨(0), zR, H', ⟨Nat.le_refl _⟩, ⟨zM a⟩, ⟨zB⟩⟩
   clear H'
   try clear c1
   try clear c2
   try clear p2
   try clear c4
   try clear F3
   try clear a7
   try clear c6
   try clear c7
   try clear d7
   try clear c8
   try clear e7
   try clear f7
   try clear T4
   try clear U5
   try clear V5
   try clear N6
   try clear g7
   try clear R3 S3 T3 U3 V3 X3 a4 b4 d4 e4
   try clear y4 A4 B4 C4 D4 E4 F4 G4 I4 J4
   try clear g4 i4 l4 m4 n4 o4 p4 q4 t4 x4
   try clear e5 f5 g5 i5 j5 l5 m5 n5 o5 p5
   try clear q5 t5 x5 y5 A5 B5 C5 D5 E5 F5
   try clear G5 I5 J5 L5 M5 N5 O5 R5 S5 T5
   try clear p2
   obtain ⟨q0, rfl, HA, b3, a, HB⟩ := hrel
   rcases gk with _ | k2
   · exact absurd HA.out (by simp [spec_NestOk.l0])
   have H := HA.out
   clear HA
   simp only [spec_NestOk.l0] at H
   by_cases O6 : q0 < (A.length : Int)
   · as_aux_lemma =>
     rw [if_pos O6] at H
     have x9 := z1 O6
     clear O6
     by_cases C7 : 0 ≤ q0
     rotate_left
     · rw [if_neg C7] at H
       exact absurd H (by simp)
     rw [if_pos C7] at H
     have a0z := z1 C7
     clear C7
     by_cases R6 : (rd A q0) < 0
     · as_aux_lemma =>
       rw [if_pos R6] at H
       have y9 := z1 R6
       clear R6
       obtain rfl := z5 H
       obtain ⟨D7, E7, F7, G7, I7, J7, L7, M7, N7, O7⟩ := zc5 a
       have d2 : 0 ≤ (q0 : Int) := z3
       have e2 : q0 < (A.length : Int) := z3
       obtain ⟨V6, i7, E0⟩ := Kd.at_int U1.out q0 d2 e2
       cases i7
       (try replace E0 := zX HB E0)
       replace d2 := eq_true d2
       replace e2 := eq_true e2
       go_wp2
       go_ret
       exact ⟨zE, zB⟩
     rw [if_neg R6] at H
     have y9 := z2 R6
     clear R6
     by_cases S6 : (rd A q0) > 4096
     · as_aux_lemma =>
       rw [if_pos S6] at H
       have A9 := z1 S6
       clear S6
       obtain rfl := z5 H
       obtain ⟨R7, S7, T7, U7, V7, X7, a8, b8, d8, e8⟩ := zc5 a
       have d2 : 0 ≤ (q0 : Int) := z3
       have e2 : q0 < (A.length : Int) := z3
       obtain ⟨V6, i7, E0⟩ := Kd.at_int U1.out q0 d2 e2
       cases i7
       (try replace E0 := zX HB E0)
       replace d2 := eq_true d2
       replace e2 := eq_true e2
       have G3 : 0 ≤ (q0 : Int) := z3
       have I3 : q0 < (A.length : Int) := z3
       obtain ⟨B9, U9, g2⟩ := Kd.at_int U1.out q0 G3 I3
       obtain rfl : V6 = B9 := (by injection U9)
       (try replace g2 := zX HB g2)
       replace G3 := eq_true G3
       replace I3 := eq_true I3
       go_wp2
       go_ret
       exact ⟨zE, zB⟩
     rw [if_neg S6] at H
     have A9 := z2 S6
     clear S6
     have H' := zK H
     clear H
     obtain ⟨f8, g8, i8, j8, l8, m8, n8, o8, p8, q8⟩ := zc5 a
     have d2 : 0 ≤ (q0 : Int) := z3
     have e2 : q0 < (A.length : Int) := z3
     obtain ⟨V6, i7, E0⟩ := Kd.at_int U1.out q0 d2 e2
     cases i7
     (try replace E0 := zX HB E0)
     replace d2 := eq_true d2
     replace e2 := eq_true e2
     have G3 : 0 ≤ (q0 : Int) := z3
     have I3 : q0 < (A.length : Int) := z3
     obtain ⟨B9, U9, g2⟩ := Kd.at_int U1.out q0 G3 I3
     obtain rfl : V6 = B9 := (by injection U9)
     (try replace g2 := zX HB g2)
     replace G3 := eq_true G3
     replace I3 := eq_true I3
     go_wp2
     go_roundg k2
     case measure => have := a3.out; have := b3.out; omega
     case rel => exact ⟨(wrap64 (q0 + 1)), zR, H', ⟨by have := a3.out; have := b3.out; omega⟩, ⟨zM a⟩, ⟨zB⟩⟩
   rw [if_neg O6] at H
   have x9 := z2 O6
   clear O6
   obtain ⟨a4f, X5⟩ : ∃ y_ : List Int, y_ = (([] : List Int)) := ⟨_, rfl⟩
   replace H : (spec_NestOk.l1 k2 a4f 0 A D x q I) = some r := by first | (rw [X5]; with_reducible exact H) | (have L3 := (Option.bind_some _ _).symm.trans H; rw [X5]; with_reducible exact L3) | (have L3 := (Option.bind_some _ _).symm.trans H; with_reducible exact L3) | with_reducible exact H | (rw [X5]; exact H) | exact H
   have Ny156 := zK X5
   clear X5
   have H' := zK H
   clear H
   obtain ⟨t8, x8, y8, A8, B8, C8, D8, E8, F8, G8⟩ := zc5 a
   go_wp2_with (first | ((with_reducible refine gd 71 rfl ?_); (try (refine gate_guard (by rfl) ?_; dsimp only)); refine Kd.R_lit (Kd.int .i64) _ 3 ?hg (N := 71) ?hd (xs := ([] : List Int)) (inner := []) (ok := fun _ => True) (okp := fun _ => True) ?hr ?hp (fun _ hk => hk) trivial (Below.refl _ _) (Nat.le_refl _) (by simp) ?_; (case hd => rfl); (case hg => rfl); (case hr => first | (go_simp; done) | (go_simp; rfl)); (case hp => exact (Reps.none _ _)); intro v157 w26 j7 hb hg_ hnew_; clear hg_ hnew_; (first | rw [← Ny156.out] at j7 | (simp only [Int.reduceToNat] at j7; rw [← Ny156.out] at j7)); have n0 := zK (Kd.R_lower j7 (zz zB)); have o0 := z7 a hb; have p0 := z8 hb; revert n0 o0 p0; clear a HB; intro a5x a HB; clear hb j7))
   go_loopg [4, 5] k2 (fun kq v4 v5 w' => ∃ (M2 : List Int) (t0 : Int), v5 = .int .i64 t0 ∧ Aside0 (spec_NestOk.l1 kq M2 t0 A D x q I = some r) ∧ Aside0 (kq ≤ k2) ∧ Aside0 (Kd.R (Kd.int .i64) 3 w' w.heap.size (fun _ => True) v4 M2) ∧ Aside0 (w'.heap[B]? = some (.cells #[(.slice J0 A.length y0), (.slice L0 D.length M0), (.slice U2 x.length N0), (.slice T1 q.length O0), (.slice R0 I.length S0)] 34 (0, 0))) ∧ Aside0 (Below w.heap.size w w'))
   case atStart => exact ⟨(a4f), (0), zR, H', ⟨Nat.le_refl _⟩, ⟨zkR a5x⟩, ⟨zM a⟩, ⟨zB⟩⟩
   clear H'
   try clear c1
   try clear p1
   try clear q1
   try clear hx1
   try clear c2
   try clear p2
   try clear c4
   try clear F3
   try clear a7
   try clear c6
   try clear c7
   try clear d7
   try clear p6
   try clear c8
   try clear e7
   try clear f7
   try clear T4
   try clear U5
   try clear V5
   try clear N6
   try clear p15
   try clear q15
   try clear a6x
   try clear g7
   try clear O6
   try clear x9
   try clear C7
   try clear a0z
   try clear R6
   try clear y9
   try clear S6
   try clear A9
   try clear R3 S3 T3 U3 V3 X3 a4 b4 d4 e4
   try clear y4 A4 B4 C4 D4 E4 F4 G4 I4 J4
   try clear g4 i4 l4 m4 n4 o4 p4 q4 t4 x4
   try clear D7 E7 F7 G7 I7 J7 L7 M7 N7 O7
   try clear R7 S7 T7 U7 V7 X7 a8 b8 d8 e8
   try clear f8 g8 i8 j8 l8 m8 n8 o8 p8 q8
   try clear t8 x8 y8 A8 B8 C8 D8 E8 F8 G8
   try clear e5 f5 g5 i5 j5 l5 m5 n5 o5 p5
   try clear q5 t5 x5 y5 A5 B5 C5 D5 E5 F5
   try clear G5 I5 J5 L5 M5 N5 O5 R5 S5 T5
   try clear E0
   try clear g2
   try clear d2
   try clear G3
   try clear p2
   try clear e2
   try clear I3
   obtain ⟨M2, t0, rfl, HA, J3, z, a, HB⟩ := hrel
   rcases gk with _ | k3
   · exact absurd HA.out (by simp [spec_NestOk.l1])
   have H := HA.out
   clear HA
   simp only [spec_NestOk.l1] at H
   by_cases l7 : t0 < (D.length : Int)
   · as_aux_lemma =>
     rw [if_pos l7] at H
     have a1a := z1 l7
     clear l7
     by_cases L9 : 0 ≤ t0
     rotate_left
     · rw [if_neg L9] at H
       exact absurd H (by simp)
     rw [if_pos L9] at H
     have a5y := z1 L9
     clear L9
     replace H := z6 H
     obtain ⟨a6y, a4m, H⟩ := H
     have A30 := zK a4m
     clear a4m
     by_cases M9 : a6y = true
     · as_aux_lemma =>
       subst M9
       rw [if_pos rfl] at H
       obtain rfl := z5 H
       obtain ⟨a1l, a1m, a1n, a1o, a1p, a1q, a1s, a1t, a1u, a1x⟩ := zc5 a
       have M3 : 0 ≤ (t0 : Int) := z3
       have N3 : t0 < (D.length : Int) := z3
       obtain ⟨a1b, V9, N2⟩ := Kd.at_int d5.out t0 M3 N3
       cases V9
       (try replace N2 := zX HB N2)
       replace M3 := eq_true M3
       replace N3 := eq_true N3
       obtain ⟨a6z, a7a, a7b⟩ := Kd.R_slice z.out
       subst a7b
       go_wp2_with (first | ((with_reducible refine gc 39 rfl ?_); refine zF 85 Try.func39 #[.slice a6z M2.length a7a, .int .i64 (rd D t0)] rfl zL ?_; refine (spec_l7Has.calls k3 _ _ M2 (rd D t0) true _ (zC (Kd.R_reads' z.out).2.2) ((Kd.R_reads' z.out).2.1) A30.out).mono ?_; rintro e w' ⟨rfl, ⟨nd, rfl⟩⟩; refine ⟨_, rfl, ?_⟩))
       go_ret
       exact ⟨zE, zB⟩
     replace M9 := Bool.eq_false_iff.mpr M9
     subst M9
     rw [if_neg (show ¬ (false = true) by decide)] at H
     by_cases N9 : M2.length < 17592186044416
     rotate_left
     · rw [if_neg N9] at H
       exact absurd H (by simp)
     rw [if_pos N9] at H
     have LMc34 := zK N9
     clear N9
     obtain ⟨a4n, a6⟩ : ∃ y_ : List Int, y_ = (M2 ++ [rd D t0]) := ⟨_, rfl⟩
     replace H : (spec_NestOk.l1 k3 a4n (wrap64 (t0 + 1)) A D x q I) = some r := by first | (rw [a6]; with_reducible exact H) | (have L3 := (Option.bind_some _ _).symm.trans H; rw [a6]; with_reducible exact L3) | (have L3 := (Option.bind_some _ _).symm.trans H; with_reducible exact L3) | with_reducible exact H | (rw [a6]; exact H) | exact H
     have Ny162 := zK a6
     clear a6
     have H' := zK H
     clear H
     obtain ⟨a1y, a1z, a2a, a2b, a2c, a2d, a2e, a2f, a2g, a2j⟩ := zc5 a
     have M3 : 0 ≤ (t0 : Int) := z3
     have N3 : t0 < (D.length : Int) := z3
     obtain ⟨a1b, V9, N2⟩ := Kd.at_int d5.out t0 M3 N3
     cases V9
     (try replace N2 := zX HB N2)
     replace M3 := eq_true M3
     replace N3 := eq_true N3
     obtain ⟨a4o, a4p, a7c⟩ := Kd.R_slice z.out
     subst a7c
     go_wp2_with (first | ((with_reducible refine gc 39 rfl ?_); refine zF 85 Try.func39 #[.slice a4o M2.length a4p, .int .i64 (rd D t0)] rfl zL ?_; refine (spec_l7Has.calls k3 _ _ M2 (rd D t0) false _ (zC (Kd.R_reads' z.out).2.2) ((Kd.R_reads' z.out).2.1) A30.out).mono ?_; rintro e w' ⟨rfl, ⟨nd, rfl⟩⟩; refine ⟨_, rfl, ?_⟩; have C9 : 0 ≤ (t0 : Int) := z3; have D9 : t0 < (D.length : Int) := z3; obtain ⟨a5z, a7d, x6⟩ := Kd.at_int d5.out t0 C9 D9; obtain rfl : a1b = a5z := (by injection a7d); (try replace x6 := zX HB x6); replace C9 := eq_true C9; replace D9 := eq_true D9) | ((with_reducible refine gate_builtin (b := .append) (xs := #[.tmp 86, .tmp 92]) rfl ?_); (try (refine gate_guard (by rfl) ?_; dsimp only)); at_builtin; refine Kd.R_append (Kd.int .i64) (w0 := w) w.heap.size rfl (.tmp 86) (.tmp 92) 22 3 (.int .i64 0) 8 rfl Try.underlying22 info3 rfl (by decide) (by omega) (.slice a4o M2.length a4p) M2 (rd D t0) [.int .i64 (rd D t0)] (fun _ => True) (fun _ => False) rfl rfl ?aP (fun _ hk => hk.elim) ?aF ?aO ?aB ?aS ?aL ?_; (case aP => exact rfl); (case aB => exact zB); (case aF => exact (fun _ _ => trivial)); (case aO => exact (zkR z)); (case aS => exact (zz zB)); (case aL => have := LMc34.out; omega); intro v163 w37 ho hb hg hat; rw [← Ny162.out] at ho; have n0 := zK (blk_grown (zM a) hg (Kd.R_ne z.out a.out (by decide))); have o0 := zK (hb); have p0 := zK (ho); revert n0 o0 p0; clear a HB z; intro a HB a6a; clear ho hb hg hat))
     go_roundg k3
     case measure => have := a3.out; have := b3.out; have := J3.out; omega
     case rel => exact ⟨(a4n), (wrap64 (t0 + 1)), zR, H', ⟨by have := a3.out; have := b3.out; have := J3.out; omega⟩, ⟨zkR a6a⟩, ⟨zM a⟩, ⟨zB⟩⟩
   rw [if_neg l7] at H
   have a1a := z2 l7
   clear l7
   have H' := zK H
   clear H
   obtain ⟨a2l, a2m, a2n, a2o, a2p, a2q, a2s, a2t, a2u, a2x⟩ := zc5 a
   go_wp2
   go_loopg [4, 6] k3 (fun kq v4 v6 w' => ∃ (x0 : List Int) (u : Int), v6 = .int .i64 u ∧ Aside0 (spec_NestOk.l2 kq x0 u A D x q I = some r) ∧ Aside0 (kq ≤ k3) ∧ Aside0 (Kd.R (Kd.int .i64) 3 w' w.heap.size (fun _ => True) v4 x0) ∧ Aside0 (w'.heap[B]? = some (.cells #[(.slice J0 A.length y0), (.slice L0 D.length M0), (.slice U2 x.length N0), (.slice T1 q.length O0), (.slice R0 I.length S0)] 34 (0, 0))) ∧ Aside0 (Below w.heap.size w w'))
   case atStart => exact ⟨(M2), (0), zR, H', ⟨Nat.le_refl _⟩, ⟨zkR z⟩, ⟨zM a⟩, ⟨zB⟩⟩
   clear H'
   try clear c1
   try clear p1
   try clear q1
   try clear hx1
   try clear c2
   try clear p2
   try clear c3
   try clear c4
   try clear F3
   try clear a7
   try clear c6
   try clear c7
   try clear d7
   try clear p6
   try clear c8
   try clear e7
   try clear f7
   try clear T4
   try clear U5
   try clear V5
   try clear N6
   try clear p15
   try clear q15
   try clear a6x
   try clear p16
   try clear q16
   try clear a4t
   try clear g7
   try clear O6
   try clear x9
   try clear C7
   try clear a0z
   try clear R6
   try clear y9
   try clear S6
   try clear A9
   try clear l7
   try clear a1a
   try clear L9
   try clear a5y
   try clear M9
   try clear N9
   try clear R3 S3 T3 U3 V3 X3 a4 b4 d4 e4
   try clear y4 A4 B4 C4 D4 E4 F4 G4 I4 J4
   try clear g4 i4 l4 m4 n4 o4 p4 q4 t4 x4
   try clear D7 E7 F7 G7 I7 J7 L7 M7 N7 O7
   try clear R7 S7 T7 U7 V7 X7 a8 b8 d8 e8
   try clear f8 g8 i8 j8 l8 m8 n8 o8 p8 q8
   try clear t8 x8 y8 A8 B8 C8 D8 E8 F8 G8
   try clear a1l a1m a1n a1o a1p a1q a1s a1t a1u a1x
   try clear a1y a1z a2a a2b a2c a2d a2e a2f a2g a2j
   try clear a2l a2m a2n a2o a2p a2q a2s a2t a2u a2x
   try clear e5 f5 g5 i5 j5 l5 m5 n5 o5 p5
   try clear q5 t5 x5 y5 A5 B5 C5 D5 E5 F5
   try clear G5 I5 J5 L5 M5 N5 O5 R5 S5 T5
   try clear E0
   try clear g2
   try clear N2
   try clear x6
   try clear p1
   try clear p15
   try clear d2
   try clear G3
   try clear M3
   try clear C9
   try clear p2
   try clear p6
   try clear q1
   try clear q15
   try clear e2
   try clear I3
   try clear N3
   try clear D9
   obtain ⟨x0, u, rfl, HA, U4, z, a, HB⟩ := hrel
   rcases gk with _ | k4
   · exact absurd HA.out (by simp [spec_NestOk.l2])
   have H := HA.out
   clear HA
   simp only [spec_NestOk.l2] at H
   by_cases T6 : u < (x.length : Int)
   rotate_left
   · as_aux_lemma =>
     rw [if_neg T6] at H
     have a1c := z2 T6
     clear T6
     have H' := zK H
     clear H
     obtain ⟨a2y, a2z, a3a, a3b, a3c, a3d, a3e, a3f, a3g, a3j⟩ := zc5 a
     go_wp2
     go_loopg [8, 9] k4 (fun kq v8 v9 w' => ∃ (E9 : Int) (l : Int), v8 = .int .i64 E9 ∧ v9 = .int .i64 l ∧ Aside0 (spec_NestOk.l3 kq x0 E9 l A D x q I = some r) ∧ Aside0 (kq ≤ k4) ∧ Aside0 (Kd.R (Kd.int .i64) 3 w' w.heap.size (fun _ => True) u4 x0) ∧ Aside0 (w'.heap[B]? = some (.cells #[(.slice J0 A.length y0), (.slice L0 D.length M0), (.slice U2 x.length N0), (.slice T1 q.length O0), (.slice R0 I.length S0)] 34 (0, 0))) ∧ Aside0 (Below w.heap.size w w'))
     case atStart => exact ⟨(0), (0), zR, zR, H', ⟨Nat.le_refl _⟩, ⟨zkR z⟩, ⟨zM a⟩, ⟨zB⟩⟩
     clear H'
     try clear c1
     try clear p1
     try clear q1
     try clear hx1
     try clear p2
     try clear c3
     try clear c4
     try clear c5
     try clear c6
     try clear p6
     try clear c16
     try clear p16
     try clear q16
     try clear a4t
     try clear T6
     try clear a1c
     try clear O9
     try clear I8
     try clear J8
     try clear b6
     try clear F9
     try clear G9
     try clear R9
     try clear S9
     try clear p64
     try clear a2y a2z a3a a3b a3c a3d a3e a3f a3g a3j
     try clear L
     try clear E
     try clear M
     try clear p1
     try clear p16
     try clear i2
     try clear j2
     try clear p2
     try clear q1
     try clear q16
     try clear m2
     try clear n2
     obtain ⟨E9, l, rfl, rfl, HA, HK5, z, a, HB⟩ := hrel
     rcases gk with _ | k5
     · exact absurd HA.out (by simp [spec_NestOk.l3])
     have H := HA.out
     clear HA
     simp only [spec_NestOk.l3] at H
     by_cases L8 : l < (q.length : Int)
     rotate_left
     · rw [if_neg L8] at H
       have a6b := z2 L8
       clear L8
       obtain rfl := z5 H
       obtain ⟨a8c, a8d, a8e, a8f, a8g, a8j, a8l, a8m, a8n, a8o⟩ := zc5 a
       go_wp2
       go_ret
       exact ⟨zE, zB⟩
     rw [if_pos L8] at H
     have a6b := z1 L8
     clear L8
     by_cases c67 : 0 ≤ l
     rotate_left
     · rw [if_neg c67] at H
       exact absurd H (by simp)
     rw [if_pos c67] at H
     have b2p := z1 c67
     clear c67
     replace H := z6 H
     obtain ⟨a7e, a4u, H⟩ := H
     have A68 := zK a4u
     clear a4u
     by_cases c69 : a7e = true
     rotate_left
     · as_aux_lemma =>
       replace c69 := Bool.eq_false_iff.mpr c69
       subst c69
       rw [if_neg (show ¬ (false = true) by decide)] at H
       obtain rfl := z5 H
       obtain ⟨a8p, a8q, a8s, a8t, a8u, a8x, a8y, a8z, a9a, a9b⟩ := zc5 a
       try go_wp2
       have n0 := zK (Kd.R_drew z.out)
       have o0 := zK (zd a.out)
       have p0 := zK (ze HB.out)
       revert n0 o0 p0
       clear z a HB
       intro z a HB
       have V2 : 0 ≤ (l : Int) := z3
       have X2 : l < (q.length : Int) := z3
       obtain ⟨y, C2, D2, E2, F2, G2, I2, J2, L2, m7, O, T, a0, b0, U, c0, X, A1, B1, C1, D1, E1, F1, G1, I1⟩ := at_T79 O3.out l V2 X2
       have A0 := X
       have F0 := c0
       have B0 := U
       have G0 := b0
       have I0 := a0
       have C0 := T
       have D0 := O
       cases m7
       (try replace O := zX HB O)
       (try replace T := zX HB T)
       (try replace a0 := zX HB a0)
       (try replace b0 := zX HB b0)
       (try replace U := zX HB U)
       (try replace c0 := zX HB c0)
       (try replace X := zX HB X)
       have J1 := zK B1
       have e3 := zK A1
       clear B1 A1
       have L1 := zK D1
       have g3 := zK C1
       clear D1 C1
       have M1 := zK F1
       have i3 := zK E1
       clear F1 E1
       have N1 := zK I1
       have j3 := zK G1
       clear I1 G1
       replace V2 := eq_true V2
       replace X2 := eq_true X2
       refine start_ (n := 20) (S := fun w' => w'.cell? ⟨B, 0, none⟩ = some (.slice J0 A.length y0) ∧ w'.cell? ⟨B, 1, none⟩ = some (.slice L0 D.length M0) ∧ w'.cell? ⟨B, 2, none⟩ = some (.slice U2 x.length N0) ∧ w'.cell? ⟨B, 3, none⟩ = some (.slice (some y) q.length O0) ∧ w'.cell? ⟨B, 4, none⟩ = some (.slice R0 I.length S0) ∧ w'.cell? (y.add ((l).toNat * 7)) = some (.slice C2 ((rd_T79 q l).f0).length D2) ∧ w'.cell? ⟨(y.add ((l).toNat * 7)).block, (y.add ((l).toNat * 7)).off + 1, none⟩ = some (.slice E2 ((rd_T79 q l).f1).length F2) ∧ w'.cell? ⟨(y.add ((l).toNat * 7)).block, (y.add ((l).toNat * 7)).off + 2, none⟩ = some (.int .i64 ((rd_T79 q l).f2.f0)) ∧ w'.cell? ⟨(y.add ((l).toNat * 7)).block, (y.add ((l).toNat * 7)).off + 3, none⟩ = some (.int .i64 ((rd_T79 q l).f2.f1)) ∧ w'.cell? ⟨(y.add ((l).toNat * 7)).block, (y.add ((l).toNat * 7)).off + 4, none⟩ = some (.slice G2 ((rd_T79 q l).f2.f2).length I2) ∧ w'.cell? ⟨(y.add ((l).toNat * 7)).block, (y.add ((l).toNat * 7)).off + 5, none⟩ = some (.bool ((rd_T79 q l).f3)) ∧ w'.cell? ⟨(y.add ((l).toNat * 7)).block, (y.add ((l).toNat * 7)).off + 6, none⟩ = some (.slice J2 ((rd_T79 q l).f4).length L2)) (ds := []) (bl 20 0) (by kernel_rfl) rfl (by kernel_rfl) ⟨zy a 0, zy a 1, zy a 2, zy a 3, zy a 4, (zX HB D0:), (zX HB C0:), (zX HB I0:), (zX HB G0:), (zX HB B0:), (zX HB F0:), (zX HB A0:)⟩ (fun hHeld => ?_); refine with_tabW spec_NestOk.tab26 spec_NestOk.bits26 (fun HT_ HW_ => ?_)
       generalize wr.drew = w83 at z a HB J1 L1 M1 N1 O T a0 b0 U c0 X hHeld ⊢
       refine zP 0 167 (bl 20 1) HT_ ?_
       refine zP 2 169 (bl 20 5) HT_ ?_
       refine zP 5 172 (bl 20 37) HT_ ?_
       refine zT 1 168 (bl 20 39) rfl rfl HT_ HW_ hHeld (by rintro w' ⟨s0, s1, s2, s3, s4, s5, s6, s7, s8, s9, x1, y1⟩; go_simp; with_reducible rfl) ?_
       refine zP 3 170 (bl 20 47) HT_ ?_
       refine zT 4 171 (bl 20 63) rfl rfl HT_ HW_ hHeld (by rintro w' ⟨s0, s1, s2, s3, s4, s5, s6, s7, s8, s9, x1, y1⟩; go_simp; with_reducible rfl) ?_
       refine zT 6 173 (bl 20 127) rfl rfl HT_ HW_ hHeld (by rintro w' ⟨s0, s1, s2, s3, s4, s5, s6, s7, s8, s9, x1, y1⟩; go_simp; with_reducible rfl) ?_
       refine one_ (i := 7) (N := some 174) (bl 20 255) rfl rfl (one_of HT_.out (by kernel_rfl)) (by decide) (fun K hK => ?_)
       refine goes_ Try.func41 (by kernel_rfl) rfl #[.agg #[.slice C2 ((rd_T79 q l).f0).length D2, .slice E2 ((rd_T79 q l).f1).length F2, .int .i64 ((rd_T79 q l).f2.f0), .int .i64 ((rd_T79 q l).f2.f1), .slice G2 ((rd_T79 q l).f2.f2).length I2, .bool ((rd_T79 q l).f3), .slice J2 ((rd_T79 q l).f4).length L2], .slice J0 A.length y0] (by rfl) rfl rfl zL ?_
       refine (spec_l11Kernel.calls k5 _ _ ((rd_T79 q l).f0) _ _ ((rd_T79 q l).f1) ((rd_T79 q l).f2.f0) ((rd_T79 q l).f2.f1) _ _ ((rd_T79 q l).f2.f2) ((rd_T79 q l).f3) _ _ ((rd_T79 q l).f4) _ _ A false _ (zS J1) e3.out (zS L1) g3.out (zS M1) i3.out (zS N1) j3.out (zS U1) p9.out A68.out).mono ?_
       rintro e w84 ⟨rfl, hb⟩
       refine ⟨_, rfl, ?_⟩
       have n0 := zK (Kd.R_below (zkR z) hb)
       have o0 := z7 a hb
       have p0 := z8 hb
       revert n0 o0 p0
       clear z a HB
       intro z a HB
       (try clear hb)
       (try clear hb2)
       (try clear hk)
       (try clear hi)
       refine hK.out _ _ ⟨zy a 0, zy a 1, zy a 2, zy a 3, zy a 4, (zX HB D0:), (zX HB C0:), (zX HB I0:), (zX HB G0:), (zX HB B0:), (zX HB F0:), (zX HB A0:)⟩ (fun hHeld => ?_)
       clear hK K
       refine zU 174 ?_
       refine zP 8 175 (bl 20 511) HT_ ?_
       refine zP 9 176 (bl 20 1023) HT_ ?_
       refine zO 10 177 (bl 20 2047) HT_ ?_
       refine zO 11 178 (bl 20 4095) HT_ ?_
       refine zO 12 179 (bl 20 8191) HT_ ?_
       refine zO 13 180 (bl 20 16383) HT_ ?_
       refine zO 14 181 (bl 20 32767) HT_ ?_
       refine zO 15 182 (bl 20 65535) HT_ ?_
       refine zO 16 183 (bl 20 131071) HT_ ?_
       refine zO 17 184 (bl 20 262143) HT_ ?_
       refine zO 18 185 (bl 20 524287) HT_ ?_
       refine zP 19 186 (bl 20 1048575) HT_ ?_
       refine done_ (done_of HT_.out (by kernel_rfl)) ?_
       try go_wp2
       go_ret
       exact ⟨zE, zB⟩
     subst c69
     rw [if_pos rfl] at H
     replace H := z6 H
     obtain ⟨a7f, a4y, H⟩ := H
     have A70 := zK a4y
     clear a4y
     by_cases c71 : a7f = true
     · as_aux_lemma =>
       subst c71
       rw [if_pos rfl] at H
       obtain rfl := z5 H
       obtain ⟨a9c, a9d, a9e, a9f, a9g, a9j, a9l, a9m, a9n, a9o⟩ := zc5 a
       try go_wp2
       have n0 := zK (Kd.R_drew z.out)
       have o0 := zK (zd a.out)
       have p0 := zK (ze HB.out)
       revert n0 o0 p0
       clear z a HB
       intro z a HB
       have V2 : 0 ≤ (l : Int) := z3
       have X2 : l < (q.length : Int) := z3
       obtain ⟨y, C2, D2, E2, F2, G2, I2, J2, L2, m7, O, T, a0, b0, U, c0, X, A1, B1, C1, D1, E1, F1, G1, I1⟩ := at_T79 O3.out l V2 X2
       have A0 := X
       have F0 := c0
       have B0 := U
       have G0 := b0
       have I0 := a0
       have C0 := T
       have D0 := O
       cases m7
       (try replace O := zX HB O)
       (try replace T := zX HB T)
       (try replace a0 := zX HB a0)
       (try replace b0 := zX HB b0)
       (try replace U := zX HB U)
       (try replace c0 := zX HB c0)
       (try replace X := zX HB X)
       have J1 := zK B1
       have e3 := zK A1
       clear B1 A1
       have L1 := zK D1
       have g3 := zK C1
       clear D1 C1
       have M1 := zK F1
       have i3 := zK E1
       clear F1 E1
       have N1 := zK I1
       have j3 := zK G1
       clear I1 G1
       replace V2 := eq_true V2
       replace X2 := eq_true X2
       have V4 : 0 ≤ (l : Int) := z3
       have X4 : l < (q.length : Int) := z3
       obtain ⟨I9, d6, e6, n7, o7, p7, q7, t7, x7, X9, d0, e0, b1, d1, g0, e1, i0, m3, n3, o3, p3, q3, t3, x3, y3⟩ := at_T79 O3.out l V4 X4
       have o2 := i0
       have q2 := e1
       have t2 := g0
       have x2 := d1
       have y2 := b1
       have A2 := e0
       have B2 := d0
       obtain rfl : y = I9 := (by injection X9)
       have y6 := d0
       (try replace d0 := zX HB d0)
       have A6 := e0
       (try replace e0 := zX HB e0)
       (try replace b1 := zX HB b1)
       (try replace d1 := zX HB d1)
       have B6 := g0
       (try replace g0 := zX HB g0)
       (try replace e1 := zX HB e1)
       have C6 := i0
       (try replace i0 := zX HB i0)
       have D6 := zK n3
       have a3l := zK m3
       clear n3 m3
       have E6 := zK p3
       have a3m := zK o3
       clear p3 o3
       have F6 := zK t3
       have a3n := zK q3
       clear t3 q3
       have G6 := zK y3
       have a3o := zK x3
       clear y3 x3
       replace V4 := eq_true V4
       replace X4 := eq_true X4
       refine start_ (n := 20) (S := fun w' => w'.cell? ⟨B, 0, none⟩ = some (.slice J0 A.length y0) ∧ w'.cell? ⟨B, 1, none⟩ = some (.slice L0 D.length M0) ∧ w'.cell? ⟨B, 2, none⟩ = some (.slice U2 x.length N0) ∧ w'.cell? ⟨B, 3, none⟩ = some (.slice (some y) q.length O0) ∧ w'.cell? ⟨B, 4, none⟩ = some (.slice R0 I.length S0) ∧ w'.cell? (y.add ((l).toNat * 7)) = some (.slice C2 ((rd_T79 q l).f0).length D2) ∧ w'.cell? ⟨(y.add ((l).toNat * 7)).block, (y.add ((l).toNat * 7)).off + 1, none⟩ = some (.slice E2 ((rd_T79 q l).f1).length F2) ∧ w'.cell? ⟨(y.add ((l).toNat * 7)).block, (y.add ((l).toNat * 7)).off + 2, none⟩ = some (.int .i64 ((rd_T79 q l).f2.f0)) ∧ w'.cell? ⟨(y.add ((l).toNat * 7)).block, (y.add ((l).toNat * 7)).off + 3, none⟩ = some (.int .i64 ((rd_T79 q l).f2.f1)) ∧ w'.cell? ⟨(y.add ((l).toNat * 7)).block, (y.add ((l).toNat * 7)).off + 4, none⟩ = some (.slice G2 ((rd_T79 q l).f2.f2).length I2) ∧ w'.cell? ⟨(y.add ((l).toNat * 7)).block, (y.add ((l).toNat * 7)).off + 5, none⟩ = some (.bool ((rd_T79 q l).f3)) ∧ w'.cell? ⟨(y.add ((l).toNat * 7)).block, (y.add ((l).toNat * 7)).off + 6, none⟩ = some (.slice J2 ((rd_T79 q l).f4).length L2) ∧ w'.cell? (y.add ((l).toNat * 7)) = some (.slice d6 ((rd_T79 q l).f0).length e6) ∧ w'.cell? ⟨(y.add ((l).toNat * 7)).block, (y.add ((l).toNat * 7)).off + 1, none⟩ = some (.slice n7 ((rd_T79 q l).f1).length o7) ∧ w'.cell? ⟨(y.add ((l).toNat * 7)).block, (y.add ((l).toNat * 7)).off + 2, none⟩ = some (.int .i64 ((rd_T79 q l).f2.f0)) ∧ w'.cell? ⟨(y.add ((l).toNat * 7)).block, (y.add ((l).toNat * 7)).off + 3, none⟩ = some (.int .i64 ((rd_T79 q l).f2.f1)) ∧ w'.cell? ⟨(y.add ((l).toNat * 7)).block, (y.add ((l).toNat * 7)).off + 4, none⟩ = some (.slice p7 ((rd_T79 q l).f2.f2).length q7) ∧ w'.cell? ⟨(y.add ((l).toNat * 7)).block, (y.add ((l).toNat * 7)).off + 5, none⟩ = some (.bool ((rd_T79 q l).f3)) ∧ w'.cell? ⟨(y.add ((l).toNat * 7)).block, (y.add ((l).toNat * 7)).off + 6, none⟩ = some (.slice t7 ((rd_T79 q l).f4).length x7)) (ds := []) (bl 20 0) (by kernel_rfl) rfl (by kernel_rfl) ⟨zy a 0, zy a 1, zy a 2, zy a 3, zy a 4, (zX HB D0:), (zX HB C0:), (zX HB I0:), (zX HB G0:), (zX HB B0:), (zX HB F0:), (zX HB A0:), (zX HB B2:), (zX HB A2:), (zX HB y2:), (zX HB x2:), (zX HB t2:), (zX HB q2:), (zX HB o2:)⟩ (fun hHeld => ?_); refine with_tabW spec_NestOk.tab26 spec_NestOk.bits26 (fun HT_ HW_ => ?_)
       generalize wr.drew = w73 at z a HB J1 L1 M1 N1 D6 E6 F6 G6 O T a0 b0 U c0 X d0 e0 b1 d1 g0 e1 i0 hHeld ⊢
       refine zP 0 167 (bl 20 1) HT_ ?_
       refine zP 2 169 (bl 20 5) HT_ ?_
       refine zP 5 172 (bl 20 37) HT_ ?_
       refine zT 1 168 (bl 20 39) rfl rfl HT_ HW_ hHeld (by rintro w' ⟨s0, s1, s2, s3, s4, s5, s6, s7, s8, s9, x1, y1, f6, g6, i6, j6, l6, m6, n6⟩; go_simp; with_reducible rfl) ?_
       refine zP 3 170 (bl 20 47) HT_ ?_
       refine zT 4 171 (bl 20 63) rfl rfl HT_ HW_ hHeld (by rintro w' ⟨s0, s1, s2, s3, s4, s5, s6, s7, s8, s9, x1, y1, f6, g6, i6, j6, l6, m6, n6⟩; go_simp; with_reducible rfl) ?_
       refine zT 6 173 (bl 20 127) rfl rfl HT_ HW_ hHeld (by rintro w' ⟨s0, s1, s2, s3, s4, s5, s6, s7, s8, s9, x1, y1, f6, g6, i6, j6, l6, m6, n6⟩; go_simp; with_reducible rfl) ?_
       refine one_ (i := 7) (N := some 174) (bl 20 255) rfl rfl (one_of HT_.out (by kernel_rfl)) (by decide) (fun K hK => ?_)
       refine goes_ Try.func41 (by kernel_rfl) rfl #[.agg #[.slice C2 ((rd_T79 q l).f0).length D2, .slice E2 ((rd_T79 q l).f1).length F2, .int .i64 ((rd_T79 q l).f2.f0), .int .i64 ((rd_T79 q l).f2.f1), .slice G2 ((rd_T79 q l).f2.f2).length I2, .bool ((rd_T79 q l).f3), .slice J2 ((rd_T79 q l).f4).length L2], .slice J0 A.length y0] (by rfl) rfl rfl zL ?_
       refine (spec_l11Kernel.calls k5 _ _ ((rd_T79 q l).f0) _ _ ((rd_T79 q l).f1) ((rd_T79 q l).f2.f0) ((rd_T79 q l).f2.f1) _ _ ((rd_T79 q l).f2.f2) ((rd_T79 q l).f3) _ _ ((rd_T79 q l).f4) _ _ A true _ (zS J1) e3.out (zS L1) g3.out (zS M1) i3.out (zS N1) j3.out (zS U1) p9.out A68.out).mono ?_
       rintro e w74 ⟨rfl, hb⟩
       refine ⟨_, rfl, ?_⟩
       have n0 := zK (Kd.R_below (zkR z) hb)
       have o0 := z7 a hb
       have p0 := z8 hb
       revert n0 o0 p0
       clear z a HB
       intro z a HB
       (try clear hb)
       (try clear hb2)
       (try clear hk)
       (try clear hi)
       obtain ⟨a7g, a7j, a4z⟩ := Kd.R_slice z.out
       (first | subst a4z | (injection a4z with f1_ f2_ f3_; have f4_ := f1_.symm; have f5_ := f3_.symm; clear f1_ f2_ f3_; subst f4_; subst f5_))
       refine hK.out _ _ ⟨zy a 0, zy a 1, zy a 2, zy a 3, zy a 4, (zX HB D0:), (zX HB C0:), (zX HB I0:), (zX HB G0:), (zX HB B0:), (zX HB F0:), (zX HB A0:), (zX HB B2:), (zX HB A2:), (zX HB y2:), (zX HB x2:), (zX HB t2:), (zX HB q2:), (zX HB o2:)⟩ (fun hHeld => ?_)
       clear hK K
       refine zU 174 ?_
       refine zP 8 175 (bl 20 511) HT_ ?_
       refine zP 9 176 (bl 20 1023) HT_ ?_
       refine zP 10 177 (bl 20 2047) HT_ ?_
       refine zP 11 178 (bl 20 4095) HT_ ?_
       refine zP 13 180 (bl 20 12287) HT_ ?_
       refine zT 12 179 (bl 20 16383) rfl rfl HT_ HW_ hHeld (by rintro w' ⟨s0, s1, s2, s3, s4, s5, s6, s7, s8, s9, x1, y1, f6, g6, i6, j6, l6, m6, n6⟩; go_simp; with_reducible rfl) ?_
       refine zP 14 181 (bl 20 32767) HT_ ?_
       refine zP 15 182 (bl 20 65535) HT_ ?_
       refine zP 16 183 (bl 20 131071) HT_ ?_
       refine zT 17 184 (bl 20 262143) rfl rfl HT_ HW_ hHeld (by rintro w' ⟨s0, s1, s2, s3, s4, s5, s6, s7, s8, s9, x1, y1, f6, g6, i6, j6, l6, m6, n6⟩; go_simp; with_reducible rfl) ?_
       refine one_ (i := 18) (N := some 185) (bl 20 524287) rfl rfl (one_of HT_.out (by kernel_rfl)) (by decide) (fun K hK => ?_)
       refine goes_ Try.func39 (by kernel_rfl) rfl #[.slice a7g x0.length a7j, .int .i64 ((rd_T79 q l).f2.f0)] (by rfl) rfl rfl zL ?_
       refine (spec_l7Has.calls k5 _ _ x0 ((rd_T79 q l).f2.f0) true _ (zC (Kd.R_reads' z.out).2.2) ((Kd.R_reads' z.out).2.1) A70.out).mono ?_
       rintro e w' ⟨rfl, ⟨nd, rfl⟩⟩
       refine ⟨_, rfl, ?_⟩
       refine hK.out _ _ ⟨zy a 0, zy a 1, zy a 2, zy a 3, zy a 4, (zX HB D0:), (zX HB C0:), (zX HB I0:), (zX HB G0:), (zX HB B0:), (zX HB F0:), (zX HB A0:), (zX HB B2:), (zX HB A2:), (zX HB y2:), (zX HB x2:), (zX HB t2:), (zX HB q2:), (zX HB o2:)⟩ (fun hHeld => ?_)
       clear hK K
       refine zU 185 ?_
       refine zP 19 186 (bl 20 1048575) HT_ ?_
       refine done_ (done_of HT_.out (by kernel_rfl)) ?_
       try go_wp2
       go_ret
       exact ⟨zE, zB⟩
     replace c71 := Bool.eq_false_iff.mpr c71
     subst c71
     rw [if_neg (show ¬ (false = true) by decide)] at H
     replace H := z6 H
     obtain ⟨a5a, a5b, H⟩ := H
     have A76 := zK a5b
     clear a5b
     have H' := zK H
     clear H
     obtain ⟨a9p, a9q, a9s, a9t, a9u, a9x, a9y, a9z, b0a, b0b⟩ := zc5 a
     try go_wp2
     have n0 := zK (Kd.R_drew z.out)
     have o0 := zK (zd a.out)
     have p0 := zK (ze HB.out)
     revert n0 o0 p0
     clear z a HB
     intro z a HB
     have V2 : 0 ≤ (l : Int) := z3
     have X2 : l < (q.length : Int) := z3
     obtain ⟨y, C2, D2, E2, F2, G2, I2, J2, L2, m7, O, T, a0, b0, U, c0, X, A1, B1, C1, D1, E1, F1, G1, I1⟩ := at_T79 O3.out l V2 X2
     have A0 := X
     have F0 := c0
     have B0 := U
     have G0 := b0
     have I0 := a0
     have C0 := T
     have D0 := O
     cases m7
     (try replace O := zX HB O)
     (try replace T := zX HB T)
     (try replace a0 := zX HB a0)
     (try replace b0 := zX HB b0)
     (try replace U := zX HB U)
     (try replace c0 := zX HB c0)
     (try replace X := zX HB X)
     have J1 := zK B1
     have e3 := zK A1
     clear B1 A1
     have L1 := zK D1
     have g3 := zK C1
     clear D1 C1
     have M1 := zK F1
     have i3 := zK E1
     clear F1 E1
     have N1 := zK I1
     have j3 := zK G1
     clear I1 G1
     replace V2 := eq_true V2
     replace X2 := eq_true X2
     have V4 : 0 ≤ (l : Int) := z3
     have X4 : l < (q.length : Int) := z3
     obtain ⟨I9, d6, e6, n7, o7, p7, q7, t7, x7, X9, d0, e0, b1, d1, g0, e1, i0, m3, n3, o3, p3, q3, t3, x3, y3⟩ := at_T79 O3.out l V4 X4
     have o2 := i0
     have q2 := e1
     have t2 := g0
     have x2 := d1
     have y2 := b1
     have A2 := e0
     have B2 := d0
     obtain rfl : y = I9 := (by injection X9)
     have y6 := d0
     (try replace d0 := zX HB d0)
     have A6 := e0
     (try replace e0 := zX HB e0)
     (try replace b1 := zX HB b1)
     (try replace d1 := zX HB d1)
     have B6 := g0
     (try replace g0 := zX HB g0)
     (try replace e1 := zX HB e1)
     have C6 := i0
     (try replace i0 := zX HB i0)
     have D6 := zK n3
     have a3l := zK m3
     clear n3 m3
     have E6 := zK p3
     have a3m := zK o3
     clear p3 o3
     have F6 := zK t3
     have a3n := zK q3
     clear t3 q3
     have G6 := zK y3
     have a3o := zK x3
     clear y3 x3
     replace V4 := eq_true V4
     replace X4 := eq_true X4
     refine start_ (n := 20) (S := fun w' => w'.cell? ⟨B, 0, none⟩ = some (.slice J0 A.length y0) ∧ w'.cell? ⟨B, 1, none⟩ = some (.slice L0 D.length M0) ∧ w'.cell? ⟨B, 2, none⟩ = some (.slice U2 x.length N0) ∧ w'.cell? ⟨B, 3, none⟩ = some (.slice (some y) q.length O0) ∧ w'.cell? ⟨B, 4, none⟩ = some (.slice R0 I.length S0) ∧ w'.cell? (y.add ((l).toNat * 7)) = some (.slice C2 ((rd_T79 q l).f0).length D2) ∧ w'.cell? ⟨(y.add ((l).toNat * 7)).block, (y.add ((l).toNat * 7)).off + 1, none⟩ = some (.slice E2 ((rd_T79 q l).f1).length F2) ∧ w'.cell? ⟨(y.add ((l).toNat * 7)).block, (y.add ((l).toNat * 7)).off + 2, none⟩ = some (.int .i64 ((rd_T79 q l).f2.f0)) ∧ w'.cell? ⟨(y.add ((l).toNat * 7)).block, (y.add ((l).toNat * 7)).off + 3, none⟩ = some (.int .i64 ((rd_T79 q l).f2.f1)) ∧ w'.cell? ⟨(y.add ((l).toNat * 7)).block, (y.add ((l).toNat * 7)).off + 4, none⟩ = some (.slice G2 ((rd_T79 q l).f2.f2).length I2) ∧ w'.cell? ⟨(y.add ((l).toNat * 7)).block, (y.add ((l).toNat * 7)).off + 5, none⟩ = some (.bool ((rd_T79 q l).f3)) ∧ w'.cell? ⟨(y.add ((l).toNat * 7)).block, (y.add ((l).toNat * 7)).off + 6, none⟩ = some (.slice J2 ((rd_T79 q l).f4).length L2) ∧ w'.cell? (y.add ((l).toNat * 7)) = some (.slice d6 ((rd_T79 q l).f0).length e6) ∧ w'.cell? ⟨(y.add ((l).toNat * 7)).block, (y.add ((l).toNat * 7)).off + 1, none⟩ = some (.slice n7 ((rd_T79 q l).f1).length o7) ∧ w'.cell? ⟨(y.add ((l).toNat * 7)).block, (y.add ((l).toNat * 7)).off + 2, none⟩ = some (.int .i64 ((rd_T79 q l).f2.f0)) ∧ w'.cell? ⟨(y.add ((l).toNat * 7)).block, (y.add ((l).toNat * 7)).off + 3, none⟩ = some (.int .i64 ((rd_T79 q l).f2.f1)) ∧ w'.cell? ⟨(y.add ((l).toNat * 7)).block, (y.add ((l).toNat * 7)).off + 4, none⟩ = some (.slice p7 ((rd_T79 q l).f2.f2).length q7) ∧ w'.cell? ⟨(y.add ((l).toNat * 7)).block, (y.add ((l).toNat * 7)).off + 5, none⟩ = some (.bool ((rd_T79 q l).f3)) ∧ w'.cell? ⟨(y.add ((l).toNat * 7)).block, (y.add ((l).toNat * 7)).off + 6, none⟩ = some (.slice t7 ((rd_T79 q l).f4).length x7)) (ds := []) (bl 20 0) (by kernel_rfl) rfl (by kernel_rfl) ⟨zy a 0, zy a 1, zy a 2, zy a 3, zy a 4, (zX HB D0:), (zX HB C0:), (zX HB I0:), (zX HB G0:), (zX HB B0:), (zX HB F0:), (zX HB A0:), (zX HB B2:), (zX HB A2:), (zX HB y2:), (zX HB x2:), (zX HB t2:), (zX HB q2:), (zX HB o2:)⟩ (fun hHeld => ?_); refine with_tabW spec_NestOk.tab26 spec_NestOk.bits26 (fun HT_ HW_ => ?_)
     generalize wr.drew = w78 at z a HB J1 L1 M1 N1 D6 E6 F6 G6 O T a0 b0 U c0 X d0 e0 b1 d1 g0 e1 i0 hHeld ⊢
     refine zP 0 167 (bl 20 1) HT_ ?_
     refine zP 2 169 (bl 20 5) HT_ ?_
     refine zP 5 172 (bl 20 37) HT_ ?_
     refine zT 1 168 (bl 20 39) rfl rfl HT_ HW_ hHeld (by rintro w' ⟨s0, s1, s2, s3, s4, s5, s6, s7, s8, s9, x1, y1, f6, g6, i6, j6, l6, m6, n6⟩; go_simp; with_reducible rfl) ?_
     refine zP 3 170 (bl 20 47) HT_ ?_
     refine zT 4 171 (bl 20 63) rfl rfl HT_ HW_ hHeld (by rintro w' ⟨s0, s1, s2, s3, s4, s5, s6, s7, s8, s9, x1, y1, f6, g6, i6, j6, l6, m6, n6⟩; go_simp; with_reducible rfl) ?_
     refine zT 6 173 (bl 20 127) rfl rfl HT_ HW_ hHeld (by rintro w' ⟨s0, s1, s2, s3, s4, s5, s6, s7, s8, s9, x1, y1, f6, g6, i6, j6, l6, m6, n6⟩; go_simp; with_reducible rfl) ?_
     refine one_ (i := 7) (N := some 174) (bl 20 255) rfl rfl (one_of HT_.out (by kernel_rfl)) (by decide) (fun K hK => ?_)
     refine goes_ Try.func41 (by kernel_rfl) rfl #[.agg #[.slice C2 ((rd_T79 q l).f0).length D2, .slice E2 ((rd_T79 q l).f1).length F2, .int .i64 ((rd_T79 q l).f2.f0), .int .i64 ((rd_T79 q l).f2.f1), .slice G2 ((rd_T79 q l).f2.f2).length I2, .bool ((rd_T79 q l).f3), .slice J2 ((rd_T79 q l).f4).length L2], .slice J0 A.length y0] (by rfl) rfl rfl zL ?_
     refine (spec_l11Kernel.calls k5 _ _ ((rd_T79 q l).f0) _ _ ((rd_T79 q l).f1) ((rd_T79 q l).f2.f0) ((rd_T79 q l).f2.f1) _ _ ((rd_T79 q l).f2.f2) ((rd_T79 q l).f3) _ _ ((rd_T79 q l).f4) _ _ A true _ (zS J1) e3.out (zS L1) g3.out (zS M1) i3.out (zS N1) j3.out (zS U1) p9.out A68.out).mono ?_
     rintro e w79 ⟨rfl, hb⟩
     refine ⟨_, rfl, ?_⟩
     have n0 := zK (Kd.R_below (zkR z) hb)
     have o0 := z7 a hb
     have p0 := z8 hb
     revert n0 o0 p0
     clear z a HB
     intro z a HB
     (try clear hb)
     (try clear hb2)
     (try clear hk)
     (try clear hi)
     obtain ⟨a7l, a7m, a5c⟩ := Kd.R_slice z.out
     (first | subst a5c | (injection a5c with f1_ f2_ f3_; have f4_ := f1_.symm; have f5_ := f3_.symm; clear f1_ f2_ f3_; subst f4_; subst f5_))
     refine hK.out _ _ ⟨zy a 0, zy a 1, zy a 2, zy a 3, zy a 4, (zX HB D0:), (zX HB C0:), (zX HB I0:), (zX HB G0:), (zX HB B0:), (zX HB F0:), (zX HB A0:), (zX HB B2:), (zX HB A2:), (zX HB y2:), (zX HB x2:), (zX HB t2:), (zX HB q2:), (zX HB o2:)⟩ (fun hHeld => ?_)
     clear hK K
     refine zU 174 ?_
     refine zP 8 175 (bl 20 511) HT_ ?_
     refine zP 9 176 (bl 20 1023) HT_ ?_
     refine zP 10 177 (bl 20 2047) HT_ ?_
     refine zP 11 178 (bl 20 4095) HT_ ?_
     refine zP 13 180 (bl 20 12287) HT_ ?_
     refine zT 12 179 (bl 20 16383) rfl rfl HT_ HW_ hHeld (by rintro w' ⟨s0, s1, s2, s3, s4, s5, s6, s7, s8, s9, x1, y1, f6, g6, i6, j6, l6, m6, n6⟩; go_simp; with_reducible rfl) ?_
     refine zP 14 181 (bl 20 32767) HT_ ?_
     refine zP 15 182 (bl 20 65535) HT_ ?_
     refine zP 16 183 (bl 20 131071) HT_ ?_
     refine zT 17 184 (bl 20 262143) rfl rfl HT_ HW_ hHeld (by rintro w' ⟨s0, s1, s2, s3, s4, s5, s6, s7, s8, s9, x1, y1, f6, g6, i6, j6, l6, m6, n6⟩; go_simp; with_reducible rfl) ?_
     refine one_ (i := 18) (N := some 185) (bl 20 524287) rfl rfl (one_of HT_.out (by kernel_rfl)) (by decide) (fun K hK => ?_)
     refine goes_ Try.func39 (by kernel_rfl) rfl #[.slice a7l x0.length a7m, .int .i64 ((rd_T79 q l).f2.f0)] (by rfl) rfl rfl zL ?_
     refine (spec_l7Has.calls k5 _ _ x0 ((rd_T79 q l).f2.f0) false _ (zC (Kd.R_reads' z.out).2.2) ((Kd.R_reads' z.out).2.1) A70.out).mono ?_
     rintro e w' ⟨rfl, ⟨nd, rfl⟩⟩
     refine ⟨_, rfl, ?_⟩
     refine hK.out _ _ ⟨zy a 0, zy a 1, zy a 2, zy a 3, zy a 4, (zX HB D0:), (zX HB C0:), (zX HB I0:), (zX HB G0:), (zX HB B0:), (zX HB F0:), (zX HB A0:), (zX HB B2:), (zX HB A2:), (zX HB y2:), (zX HB x2:), (zX HB t2:), (zX HB q2:), (zX HB o2:)⟩ (fun hHeld => ?_)
     clear hK K
     refine zU 185 ?_
     refine zP 19 186 (bl 20 1048575) HT_ ?_
     refine done_ (done_of HT_.out (by kernel_rfl)) ?_
     obtain ⟨b0c, b0d, b0e, b0f, b0g, b0j, b0l, b0m, b0n, b0o⟩ := zc5 a
     have a0a : 0 ≤ (l : Int) := z3
     have a0b : l < (q.length : Int) := z3
     obtain ⟨a6c, b1t, b1u, b1x, b1y, b1z, b2a, b2b, b2c, a7n, L4, M4, M8, N8, N4, O8, O4, R8, S8, T8, U8, V8, X8, a9, b9⟩ := at_T79 O3.out l a0a a0b
     obtain rfl : y = a6c := (by injection a7n)
     have a3p := L4
     (try replace L4 := zX HB L4)
     have a3q := M4
     (try replace M4 := zX HB M4)
     (try replace M8 := zX HB M8)
     (try replace N8 := zX HB N8)
     have a3s := N4
     (try replace N4 := zX HB N4)
     (try replace O8 := zX HB O8)
     have a3t := O4
     (try replace O4 := zX HB O4)
     have a3u := zK S8
     have a3x := zK R8
     clear S8 R8
     have b0p := zK U8
     have b0q := zK T8
     clear U8 T8
     have b0s := zK X8
     have b0t := zK V8
     clear X8 V8
     have b0u := zK b9
     have b0x := zK a9
     clear b9 a9
     replace a0a := eq_true a0a
     replace a0b := eq_true a0b
     have ea_ := z5 (by first | exact d0.symm.trans L4 | exact y6.symm.trans a3p)
     injection ea_ with ea_ en_ ec_
     subst ea_
     subst ec_
     clear en_
     (try (have ea_ := z5 (by first | exact y6.symm.trans D0 | exact d0.symm.trans O); injection ea_ with ea_ en_ ec_; subst ea_; subst ec_; clear en_))
     have ea_ := z5 (by first | exact e0.symm.trans M4 | exact A6.symm.trans a3q)
     injection ea_ with ea_ en_ ec_
     subst ea_
     subst ec_
     clear en_
     (try (have ea_ := z5 (by first | exact A6.symm.trans C0 | exact e0.symm.trans T); injection ea_ with ea_ en_ ec_; subst ea_; subst ec_; clear en_))
     have ea_ := z5 (by first | exact g0.symm.trans N4 | exact B6.symm.trans a3s)
     injection ea_ with ea_ en_ ec_
     subst ea_
     subst ec_
     clear en_
     (try (have ea_ := z5 (by first | exact B6.symm.trans B0 | exact g0.symm.trans U); injection ea_ with ea_ en_ ec_; subst ea_; subst ec_; clear en_))
     have ea_ := z5 (by first | exact i0.symm.trans O4 | exact C6.symm.trans a3t)
     injection ea_ with ea_ en_ ec_
     subst ea_
     subst ec_
     clear en_
     (try (have ea_ := z5 (by first | exact C6.symm.trans A0 | exact i0.symm.trans X); injection ea_ with ea_ en_ ec_; subst ea_; subst ec_; clear en_))
     try go_wp2_with (first | ((with_reducible refine gc 42 rfl ?_); refine zF 194 Try.func42 #[.slice d6 ((rd_T79 q l).f0).length e6] rfl zL ?_; refine (spec_l11Product.calls k5 _ _ ((rd_T79 q l).f0) a5a _ (zS a3u) a3x.out A76.out).mono ?_; rintro e w' ⟨rfl, ⟨nd, rfl⟩⟩; refine ⟨_, rfl, ?_⟩))
     go_roundg k5
     case measure => have := a3.out; have := b3.out; have := J3.out; have := U4.out; have := HK5.out; omega
     case rel => exact ⟨(wrap64 (E9 + a5a)), (wrap64 (l + 1)), zR, zR, H', ⟨by have := a3.out; have := b3.out; have := J3.out; have := U4.out; have := HK5.out; omega⟩, ⟨zkR z⟩, ⟨zM a⟩, ⟨zB⟩⟩
   rw [if_pos T6] at H
   have a1c := z1 T6
   clear T6
   by_cases O9 : 0 ≤ u
   rotate_left
   · rw [if_neg O9] at H
     exact absurd H (by simp)
   rw [if_pos O9] at H
   have b2q := z1 O9
   clear O9
   have a0c := zK H
   clear H
   obtain ⟨b0y, b0z, b1a, b1b, b1c, b1d, b1e, b1f, b1g, b1j⟩ := zc5 a
   have a0d : 0 ≤ (u : Int) := z3
   have a0e : u < (x.length : Int) := z3
   obtain ⟨J, b2d, b2e, a7o, c9, A3, d9, e9⟩ := at_T71 E3.out u a0d a0e
   cases a7o
   (try replace c9 := zX HB c9)
   (try replace A3 := zX HB A3)
   have b1l := zK e9
   have b1m := zK d9
   clear e9 d9
   replace a0d := eq_true a0d
   replace a0e := eq_true a0e
   go_upto_region 19 with (fail)
   go_cut [155] (fun v155 wc => ∃ (kq : Nat) (R4 : Bool), v155 = .bool R4 ∧ Aside0 (spec_NestOk.j4 kq x0 u ((rd_T71 x u).f0) R4 A D x q I = some r) ∧ Aside0 (kq ≤ k4) ∧ Aside0 (Kd.R (Kd.int .i64) 3 wc w.heap.size (fun _ => True) u4 x0) ∧ Aside0 (wc.heap[B]? = some (.cells #[(.slice J0 A.length y0), (.slice L0 D.length M0), (.slice (some J) x.length N0), (.slice T1 q.length O0), (.slice R0 I.length S0)] 34 (0, 0))) ∧ Aside0 (Below w.heap.size w wc))
   case first =>
    have H := a0c.out
    clear a0c
    by_cases f9 : ((rd_T71 x u).f0) < 0
    · as_aux_lemma =>
      rw [if_pos f9] at H
      have o6 := z1 f9
      clear f9
      (first | rw [o6] | (simp only [i64_w, i32_w]; rw [o6]) | skip)
      have H' := zK H
      clear H
      try go_wp2
      have n0 := zK (Kd.R_drew z.out)
      have o0 := zK (zd a.out)
      have p0 := zK (ze HB.out)
      revert n0 o0 p0
      clear z a HB
      intro z a HB
      refine start_ (n := 49) (S := fun w' => True) (ds := []) (bl 49 0) (by kernel_rfl) rfl (by kernel_rfl) trivial (fun hHeld => ?_); refine with_tabW spec_NestOk.tab19 spec_NestOk.bits19 (fun HT_ HW_ => ?_)
      generalize wr.drew = w44 at z a HB hHeld ⊢
      refine zP 0 107 (bl 49 1) HT_ ?_
      refine zP 1 108 (bl 49 3) HT_ ?_
      refine zP 2 109 (bl 49 7) HT_ ?_
      refine zO 3 110 (bl 49 15) HT_ ?_
      refine zO 4 111 (bl 49 31) HT_ ?_
      refine zO 5 112 (bl 49 63) HT_ ?_
      refine zO 6 113 (bl 49 127) HT_ ?_
      refine zO 7 114 (bl 49 255) HT_ ?_
      refine zP 8 115 (bl 49 511) HT_ ?_
      refine zP 9 116 (bl 49 1023) HT_ ?_
      refine zO 10 117 (bl 49 2047) HT_ ?_
      refine zO 11 118 (bl 49 4095) HT_ ?_
      refine zO 12 119 (bl 49 8191) HT_ ?_
      refine zP 13 120 (bl 49 16383) HT_ ?_
      refine zP 14 121 (bl 49 32767) HT_ ?_
      refine zO 15 122 (bl 49 65535) HT_ ?_
      refine zO 16 123 (bl 49 131071) HT_ ?_
      refine zO 17 124 (bl 49 262143) HT_ ?_
      refine zO 18 125 (bl 49 524287) HT_ ?_
      refine zO 19 126 (bl 49 1048575) HT_ ?_
      refine zO 20 127 (bl 49 2097151) HT_ ?_
      refine zO 21 128 (bl 49 4194303) HT_ ?_
      refine zO 22 129 (bl 49 8388607) HT_ ?_
      refine zO 23 130 (bl 49 16777215) HT_ ?_
      refine zO 24 131 (bl 49 33554431) HT_ ?_
      refine zO 25 132 (bl 49 67108863) HT_ ?_
      refine zO 26 133 (bl 49 134217727) HT_ ?_
      refine zO 27 134 (bl 49 268435455) HT_ ?_
      refine zP 28 135 (bl 49 536870911) HT_ ?_
      refine zP 29 136 (bl 49 1073741823) HT_ ?_
      refine zO 30 137 (bl 49 2147483647) HT_ ?_
      refine zO 31 138 (bl 49 4294967295) HT_ ?_
      refine zO 32 139 (bl 49 8589934591) HT_ ?_
      refine zO 33 140 (bl 49 17179869183) HT_ ?_
      refine zO 34 141 (bl 49 34359738367) HT_ ?_
      refine zO 35 142 (bl 49 68719476735) HT_ ?_
      refine zO 36 143 (bl 49 137438953471) HT_ ?_
      refine zO 37 144 (bl 49 274877906943) HT_ ?_
      refine zO 38 145 (bl 49 549755813887) HT_ ?_
      refine zO 39 146 (bl 49 1099511627775) HT_ ?_
      refine zO 40 147 (bl 49 2199023255551) HT_ ?_
      refine zO 41 148 (bl 49 4398046511103) HT_ ?_
      refine zO 42 149 (bl 49 8796093022207) HT_ ?_
      refine zO 43 150 (bl 49 17592186044415) HT_ ?_
      refine zO 44 151 (bl 49 35184372088831) HT_ ?_
      refine zO 45 152 (bl 49 70368744177663) HT_ ?_
      refine zO 46 153 (bl 49 140737488355327) HT_ ?_
      refine zO 47 154 (bl 49 281474976710655) HT_ ?_
      refine zP 48 155 (bl 49 562949953421311) HT_ ?_
      refine done_ (done_of HT_.out (by kernel_rfl)) ?_
      try go_wp2
      go_meet
      case rel => exact ⟨_, (true), zR, H', ⟨by have := a3.out; have := b3.out; have := J3.out; have := U4.out; first | omega | exact Nat.le_refl _⟩, ⟨zkR z⟩, ⟨zM a⟩, ⟨zB⟩⟩
    rw [if_neg f9] at H
    have o6 := z2 f9
    clear f9
    (first | rw [o6] | (simp only [i64_w, i32_w]; rw [o6]) | skip)
    by_cases g9 : ((rd_T71 x u).f0) ≥ (A.length : Int)
    · as_aux_lemma =>
      rw [if_pos g9] at H
      have a6d := z1 g9
      clear g9
      have H' := zK H
      clear H
      try go_wp2
      have n0 := zK (Kd.R_drew z.out)
      have o0 := zK (zd a.out)
      have p0 := zK (ze HB.out)
      revert n0 o0 p0
      clear z a HB
      intro z a HB
      refine start_ (n := 49) (S := fun w' => w'.cell? ⟨B, 0, none⟩ = some (.slice J0 A.length y0) ∧ w'.cell? ⟨B, 1, none⟩ = some (.slice L0 D.length M0) ∧ w'.cell? ⟨B, 2, none⟩ = some (.slice (some J) x.length N0) ∧ w'.cell? ⟨B, 3, none⟩ = some (.slice T1 q.length O0) ∧ w'.cell? ⟨B, 4, none⟩ = some (.slice R0 I.length S0)) (ds := []) (bl 49 0) (by kernel_rfl) rfl (by kernel_rfl) ⟨zy a 0, zy a 1, zy a 2, zy a 3, zy a 4⟩ (fun hHeld => ?_); refine with_tabW spec_NestOk.tab19 spec_NestOk.bits19 (fun HT_ HW_ => ?_)
      generalize wr.drew = w46 at z a HB hHeld ⊢
      refine zP 0 107 (bl 49 1) HT_ ?_
      refine zP 1 108 (bl 49 3) HT_ ?_
      refine zP 2 109 (bl 49 7) HT_ ?_
      refine zP 3 110 (bl 49 15) HT_ ?_
      refine zP 4 111 (bl 49 31) HT_ ?_
      refine zT 5 112 (bl 49 63) rfl rfl HT_ HW_ hHeld (by rintro w' ⟨s0, s1, s2, s3, s4⟩; go_simp; with_reducible rfl) ?_
      refine zP 6 113 (bl 49 127) HT_ ?_
      refine zP 7 114 (bl 49 255) HT_ ?_
      refine zP 8 115 (bl 49 511) HT_ ?_
      refine zP 9 116 (bl 49 1023) HT_ ?_
      refine zO 10 117 (bl 49 2047) HT_ ?_
      refine zO 11 118 (bl 49 4095) HT_ ?_
      refine zO 12 119 (bl 49 8191) HT_ ?_
      refine zP 13 120 (bl 49 16383) HT_ ?_
      refine zP 14 121 (bl 49 32767) HT_ ?_
      refine zO 15 122 (bl 49 65535) HT_ ?_
      refine zO 16 123 (bl 49 131071) HT_ ?_
      refine zO 17 124 (bl 49 262143) HT_ ?_
      refine zO 18 125 (bl 49 524287) HT_ ?_
      refine zO 19 126 (bl 49 1048575) HT_ ?_
      refine zO 20 127 (bl 49 2097151) HT_ ?_
      refine zO 21 128 (bl 49 4194303) HT_ ?_
      refine zO 22 129 (bl 49 8388607) HT_ ?_
      refine zO 23 130 (bl 49 16777215) HT_ ?_
      refine zO 24 131 (bl 49 33554431) HT_ ?_
      refine zO 25 132 (bl 49 67108863) HT_ ?_
      refine zO 26 133 (bl 49 134217727) HT_ ?_
      refine zO 27 134 (bl 49 268435455) HT_ ?_
      refine zP 28 135 (bl 49 536870911) HT_ ?_
      refine zP 29 136 (bl 49 1073741823) HT_ ?_
      refine zO 30 137 (bl 49 2147483647) HT_ ?_
      refine zO 31 138 (bl 49 4294967295) HT_ ?_
      refine zO 32 139 (bl 49 8589934591) HT_ ?_
      refine zO 33 140 (bl 49 17179869183) HT_ ?_
      refine zO 34 141 (bl 49 34359738367) HT_ ?_
      refine zO 35 142 (bl 49 68719476735) HT_ ?_
      refine zO 36 143 (bl 49 137438953471) HT_ ?_
      refine zO 37 144 (bl 49 274877906943) HT_ ?_
      refine zO 38 145 (bl 49 549755813887) HT_ ?_
      refine zO 39 146 (bl 49 1099511627775) HT_ ?_
      refine zO 40 147 (bl 49 2199023255551) HT_ ?_
      refine zO 41 148 (bl 49 4398046511103) HT_ ?_
      refine zO 42 149 (bl 49 8796093022207) HT_ ?_
      refine zO 43 150 (bl 49 17592186044415) HT_ ?_
      refine zO 44 151 (bl 49 35184372088831) HT_ ?_
      refine zO 45 152 (bl 49 70368744177663) HT_ ?_
      refine zO 46 153 (bl 49 140737488355327) HT_ ?_
      refine zO 47 154 (bl 49 281474976710655) HT_ ?_
      refine zP 48 155 (bl 49 562949953421311) HT_ ?_
      refine done_ (done_of HT_.out (by kernel_rfl)) ?_
      try go_wp2
      go_meet
      case rel => exact ⟨_, (true), zR, H', ⟨by have := a3.out; have := b3.out; have := J3.out; have := U4.out; first | omega | exact Nat.le_refl _⟩, ⟨zkR z⟩, ⟨zM a⟩, ⟨zB⟩⟩
    rw [if_neg g9] at H
    have a6d := z2 g9
    clear g9
    replace H := z6 H
    obtain ⟨a7p, a5d, H⟩ := H
    have A47 := zK a5d
    clear a5d
    by_cases c48 : a7p = true
    · as_aux_lemma =>
      subst c48
      rw [if_pos rfl] at H
      have H' := zK H
      clear H
      try go_wp2
      have n0 := zK (Kd.R_drew z.out)
      have o0 := zK (zd a.out)
      have p0 := zK (ze HB.out)
      revert n0 o0 p0
      clear z a HB
      intro z a HB
      obtain ⟨a7q, a7s, a5e⟩ := Kd.R_slice z.out
      (first | subst a5e | (injection a5e with f1_ f2_ f3_; have f4_ := f1_.symm; have f5_ := f3_.symm; clear f1_ f2_ f3_; subst f4_; subst f5_))
      refine start_ (n := 49) (S := fun w' => w'.cell? ⟨B, 0, none⟩ = some (.slice J0 A.length y0) ∧ w'.cell? ⟨B, 1, none⟩ = some (.slice L0 D.length M0) ∧ w'.cell? ⟨B, 2, none⟩ = some (.slice (some J) x.length N0) ∧ w'.cell? ⟨B, 3, none⟩ = some (.slice T1 q.length O0) ∧ w'.cell? ⟨B, 4, none⟩ = some (.slice R0 I.length S0)) (ds := []) (bl 49 0) (by kernel_rfl) rfl (by kernel_rfl) ⟨zy a 0, zy a 1, zy a 2, zy a 3, zy a 4⟩ (fun hHeld => ?_); refine with_tabW spec_NestOk.tab19 spec_NestOk.bits19 (fun HT_ HW_ => ?_)
      generalize wr.drew = w49 at z a HB hHeld ⊢
      refine zP 0 107 (bl 49 1) HT_ ?_
      refine zP 1 108 (bl 49 3) HT_ ?_
      refine zP 2 109 (bl 49 7) HT_ ?_
      refine zP 3 110 (bl 49 15) HT_ ?_
      refine zP 4 111 (bl 49 31) HT_ ?_
      refine zT 5 112 (bl 49 63) rfl rfl HT_ HW_ hHeld (by rintro w' ⟨s0, s1, s2, s3, s4⟩; go_simp; with_reducible rfl) ?_
      refine zP 6 113 (bl 49 127) HT_ ?_
      refine zP 7 114 (bl 49 255) HT_ ?_
      refine zP 8 115 (bl 49 511) HT_ ?_
      refine zP 9 116 (bl 49 1023) HT_ ?_
      refine zP 10 117 (bl 49 2047) HT_ ?_
      refine zP 11 118 (bl 49 4095) HT_ ?_
      refine one_ (i := 12) (N := some 119) (bl 49 8191) rfl rfl (one_of HT_.out (by kernel_rfl)) (by decide) (fun K hK => ?_)
      refine goes_ Try.func39 (by kernel_rfl) rfl #[.slice a7q x0.length a7s, .int .i64 ((rd_T71 x u).f0)] (by rfl) rfl rfl zL ?_
      refine (spec_l7Has.calls k4 _ _ x0 ((rd_T71 x u).f0) true _ (zC (Kd.R_reads' z.out).2.2) ((Kd.R_reads' z.out).2.1) A47.out).mono ?_
      rintro e w' ⟨rfl, ⟨nd, rfl⟩⟩
      refine ⟨_, rfl, ?_⟩
      refine hK.out _ _ ⟨zy a 0, zy a 1, zy a 2, zy a 3, zy a 4⟩ (fun hHeld => ?_)
      clear hK K
      refine zU 119 ?_
      refine zP 13 120 (bl 49 16383) HT_ ?_
      refine zP 14 121 (bl 49 32767) HT_ ?_
      refine zO 15 122 (bl 49 65535) HT_ ?_
      refine zO 16 123 (bl 49 131071) HT_ ?_
      refine zO 17 124 (bl 49 262143) HT_ ?_
      refine zO 18 125 (bl 49 524287) HT_ ?_
      refine zO 19 126 (bl 49 1048575) HT_ ?_
      refine zO 20 127 (bl 49 2097151) HT_ ?_
      refine zO 21 128 (bl 49 4194303) HT_ ?_
      refine zO 22 129 (bl 49 8388607) HT_ ?_
      refine zO 23 130 (bl 49 16777215) HT_ ?_
      refine zO 24 131 (bl 49 33554431) HT_ ?_
      refine zO 25 132 (bl 49 67108863) HT_ ?_
      refine zO 26 133 (bl 49 134217727) HT_ ?_
      refine zO 27 134 (bl 49 268435455) HT_ ?_
      refine zP 28 135 (bl 49 536870911) HT_ ?_
      refine zP 29 136 (bl 49 1073741823) HT_ ?_
      refine zO 30 137 (bl 49 2147483647) HT_ ?_
      refine zO 31 138 (bl 49 4294967295) HT_ ?_
      refine zO 32 139 (bl 49 8589934591) HT_ ?_
      refine zO 33 140 (bl 49 17179869183) HT_ ?_
      refine zO 34 141 (bl 49 34359738367) HT_ ?_
      refine zO 35 142 (bl 49 68719476735) HT_ ?_
      refine zO 36 143 (bl 49 137438953471) HT_ ?_
      refine zO 37 144 (bl 49 274877906943) HT_ ?_
      refine zO 38 145 (bl 49 549755813887) HT_ ?_
      refine zO 39 146 (bl 49 1099511627775) HT_ ?_
      refine zO 40 147 (bl 49 2199023255551) HT_ ?_
      refine zO 41 148 (bl 49 4398046511103) HT_ ?_
      refine zO 42 149 (bl 49 8796093022207) HT_ ?_
      refine zO 43 150 (bl 49 17592186044415) HT_ ?_
      refine zO 44 151 (bl 49 35184372088831) HT_ ?_
      refine zO 45 152 (bl 49 70368744177663) HT_ ?_
      refine zO 46 153 (bl 49 140737488355327) HT_ ?_
      refine zO 47 154 (bl 49 281474976710655) HT_ ?_
      refine zP 48 155 (bl 49 562949953421311) HT_ ?_
      refine done_ (done_of HT_.out (by kernel_rfl)) ?_
      try go_wp2
      go_meet
      case rel => exact ⟨_, (true), zR, H', ⟨by have := a3.out; have := b3.out; have := J3.out; have := U4.out; first | omega | exact Nat.le_refl _⟩, ⟨zkR z⟩, ⟨zM a⟩, ⟨zB⟩⟩
    replace c48 := Bool.eq_false_iff.mpr c48
    subst c48
    rw [if_neg (show ¬ (false = true) by decide)] at H
    by_cases I8 : 0 ≤ ((rd_T71 x u).f0)
    rotate_left
    · rw [if_neg I8] at H
      exact absurd H (by simp)
    rw [if_pos I8] at H
    have b2s := z1 I8
    clear I8
    by_cases J8 : ((rd_T71 x u).f0) < (A.length : Int)
    rotate_left
    · rw [if_neg J8] at H
      exact absurd H (by simp)
    rw [if_pos J8] at H
    have b2t := z1 J8
    clear J8
    by_cases b6 : (((rd_T71 x u).f1).length : Int) = (rd A ((rd_T71 x u).f0))
    rotate_left
    · as_aux_lemma =>
      rw [if_neg b6] at H
      have F9 := beq_eq_false_iff_ne.mpr b6
      have G9 := bne_iff_ne.mpr b6
      have H' := zK H
      clear H
      try go_wp2
      have n0 := zK (Kd.R_drew z.out)
      have o0 := zK (zd a.out)
      have p0 := zK (ze HB.out)
      revert n0 o0 p0
      clear z a HB
      intro z a HB
      obtain ⟨a7t, a7u, a5f⟩ := Kd.R_slice z.out
      (first | subst a5f | (injection a5f with f1_ f2_ f3_; have f4_ := f1_.symm; have f5_ := f3_.symm; clear f1_ f2_ f3_; subst f4_; subst f5_))
      have i2 : 0 ≤ (u : Int) := z3
      have m2 : u < (x.length : Int) := z3
      obtain ⟨q6, V1, X1, y7, L, E, O1, R1⟩ := at_T71 E3.out u i2 m2
      have g1 := E
      have i1 := L
      obtain rfl : J = q6 := (by injection y7)
      (try replace L := zX HB L)
      have S1 := E
      (try replace E := zX HB E)
      have B3 := zK R1
      have i9 := zK O1
      clear R1 O1
      replace i2 := eq_true i2
      replace m2 := eq_true m2
      have j2 : 0 ≤ (((rd_T71 x u).f0) : Int) := z3
      have n2 : ((rd_T71 x u).f0) < (A.length : Int) := z3
      obtain ⟨d3, A7, M⟩ := Kd.at_int U1.out ((rd_T71 x u).f0) j2 n2
      have j1 := M
      cases A7
      (try replace M := zX HB M)
      replace j2 := eq_true j2
      replace n2 := eq_true n2
      refine start_ (n := 49) (S := fun w' => w'.cell? ⟨B, 0, none⟩ = some (.slice (some d3) A.length y0) ∧ w'.cell? ⟨B, 1, none⟩ = some (.slice L0 D.length M0) ∧ w'.cell? ⟨B, 2, none⟩ = some (.slice (some J) x.length N0) ∧ w'.cell? ⟨B, 3, none⟩ = some (.slice T1 q.length O0) ∧ w'.cell? ⟨B, 4, none⟩ = some (.slice R0 I.length S0) ∧ w'.cell? (J.add ((u).toNat * 2)) = some (.int .i64 ((rd_T71 x u).f0)) ∧ w'.cell? ⟨(J.add ((u).toNat * 2)).block, (J.add ((u).toNat * 2)).off + 1, none⟩ = some (.slice V1 ((rd_T71 x u).f1).length X1) ∧ w'.cell? (d3.add (((rd_T71 x u).f0)).toNat) = some (.int .i64 (rd A ((rd_T71 x u).f0)))) (ds := []) (bl 49 0) (by kernel_rfl) rfl (by kernel_rfl) ⟨zy a 0, zy a 1, zy a 2, zy a 3, zy a 4, (zX HB i1:), (zX HB g1:), (zX HB j1:)⟩ (fun hHeld => ?_); refine with_tabW spec_NestOk.tab19 spec_NestOk.bits19 (fun HT_ HW_ => ?_)
      generalize wr.drew = w60 at z a HB B3 L E M hHeld ⊢
      refine zP 0 107 (bl 49 1) HT_ ?_
      refine zP 1 108 (bl 49 3) HT_ ?_
      refine zP 2 109 (bl 49 7) HT_ ?_
      refine zP 3 110 (bl 49 15) HT_ ?_
      refine zP 4 111 (bl 49 31) HT_ ?_
      refine zT 5 112 (bl 49 63) rfl rfl HT_ HW_ hHeld (by rintro w' ⟨s0, s1, s2, s3, s4, s5, s6, s7⟩; go_simp; with_reducible rfl) ?_
      refine zP 6 113 (bl 49 127) HT_ ?_
      refine zP 7 114 (bl 49 255) HT_ ?_
      refine zP 8 115 (bl 49 511) HT_ ?_
      refine zP 9 116 (bl 49 1023) HT_ ?_
      refine zP 10 117 (bl 49 2047) HT_ ?_
      refine zP 11 118 (bl 49 4095) HT_ ?_
      refine one_ (i := 12) (N := some 119) (bl 49 8191) rfl rfl (one_of HT_.out (by kernel_rfl)) (by decide) (fun K hK => ?_)
      refine goes_ Try.func39 (by kernel_rfl) rfl #[.slice a7t x0.length a7u, .int .i64 ((rd_T71 x u).f0)] (by rfl) rfl rfl zL ?_
      refine (spec_l7Has.calls k4 _ _ x0 ((rd_T71 x u).f0) false _ (zC (Kd.R_reads' z.out).2.2) ((Kd.R_reads' z.out).2.1) A47.out).mono ?_
      rintro e w' ⟨rfl, ⟨nd, rfl⟩⟩
      refine ⟨_, rfl, ?_⟩
      refine hK.out _ _ ⟨zy a 0, zy a 1, zy a 2, zy a 3, zy a 4, (zX HB i1:), (zX HB g1:), (zX HB j1:)⟩ (fun hHeld => ?_)
      clear hK K
      refine zU 119 ?_
      refine zP 13 120 (bl 49 16383) HT_ ?_
      refine zP 14 121 (bl 49 32767) HT_ ?_
      refine zP 15 122 (bl 49 65535) HT_ ?_
      refine zP 17 124 (bl 49 196607) HT_ ?_
      refine zP 22 129 (bl 49 4390911) HT_ ?_
      refine zP 24 131 (bl 49 21168127) HT_ ?_
      refine zT 16 123 (bl 49 21233663) rfl rfl HT_ HW_ hHeld (by rintro w' ⟨s0, s1, s2, s3, s4, s5, s6, s7⟩; go_simp; with_reducible rfl) ?_
      refine zP 18 125 (bl 49 21495807) HT_ ?_
      refine zP 19 126 (bl 49 22020095) HT_ ?_
      refine zT 20 127 (bl 49 23068671) rfl rfl HT_ HW_ hHeld (by rintro w' ⟨s0, s1, s2, s3, s4, s5, s6, s7⟩; go_simp; with_reducible rfl) ?_
      refine zP 21 128 (bl 49 25165823) HT_ ?_
      refine zT 23 130 (bl 49 33554431) rfl rfl HT_ HW_ hHeld (by rintro w' ⟨s0, s1, s2, s3, s4, s5, s6, s7⟩; go_simp; with_reducible rfl) ?_
      refine zP 25 132 (bl 49 67108863) HT_ ?_
      refine zT 26 133 (bl 49 134217727) rfl rfl HT_ HW_ hHeld (by rintro w' ⟨s0, s1, s2, s3, s4, s5, s6, s7⟩; go_simp; with_reducible rfl) ?_
      refine zP 27 134 (bl 49 268435455) HT_ ?_
      refine zP 28 135 (bl 49 536870911) HT_ ?_
      refine zP 29 136 (bl 49 1073741823) HT_ ?_
      refine zO 30 137 (bl 49 2147483647) HT_ ?_
      refine zO 31 138 (bl 49 4294967295) HT_ ?_
      refine zO 32 139 (bl 49 8589934591) HT_ ?_
      refine zO 33 140 (bl 49 17179869183) HT_ ?_
      refine zO 34 141 (bl 49 34359738367) HT_ ?_
      refine zO 35 142 (bl 49 68719476735) HT_ ?_
      refine zO 36 143 (bl 49 137438953471) HT_ ?_
      refine zO 37 144 (bl 49 274877906943) HT_ ?_
      refine zO 38 145 (bl 49 549755813887) HT_ ?_
      refine zO 39 146 (bl 49 1099511627775) HT_ ?_
      refine zO 40 147 (bl 49 2199023255551) HT_ ?_
      refine zO 41 148 (bl 49 4398046511103) HT_ ?_
      refine zO 42 149 (bl 49 8796093022207) HT_ ?_
      refine zO 43 150 (bl 49 17592186044415) HT_ ?_
      refine zO 44 151 (bl 49 35184372088831) HT_ ?_
      refine zO 45 152 (bl 49 70368744177663) HT_ ?_
      refine zO 46 153 (bl 49 140737488355327) HT_ ?_
      refine zO 47 154 (bl 49 281474976710655) HT_ ?_
      refine zP 48 155 (bl 49 562949953421311) HT_ ?_
      refine done_ (done_of HT_.out (by kernel_rfl)) ?_
      try go_wp2
      go_meet
      case rel => exact ⟨_, (true), zR, H', ⟨by have := a3.out; have := b3.out; have := J3.out; have := U4.out; first | omega | exact Nat.le_refl _⟩, ⟨zkR z⟩, ⟨zM a⟩, ⟨zB⟩⟩
    rw [if_pos b6] at H
    have F9 := beq_iff_eq.mpr b6
    have G9 := bne_eq_false_iff_eq.mpr b6
    clear b6
    by_cases j9 : (((rd_T71 x u).f1).length : Int) > 0
    rotate_left
    · as_aux_lemma =>
      rw [if_neg j9] at H
      have a6e := z2 j9
      have a6f : decide (0 < ((rd_T71 x u).f1).length) = false := z2 (by omega)
      clear j9
      have H' := zK H
      clear H
      try go_wp2
      have n0 := zK (Kd.R_drew z.out)
      have o0 := zK (zd a.out)
      have p0 := zK (ze HB.out)
      revert n0 o0 p0
      clear z a HB
      intro z a HB
      obtain ⟨a7x, a7y, a5g⟩ := Kd.R_slice z.out
      (first | subst a5g | (injection a5g with f1_ f2_ f3_; have f4_ := f1_.symm; have f5_ := f3_.symm; clear f1_ f2_ f3_; subst f4_; subst f5_))
      have i2 : 0 ≤ (u : Int) := z3
      have m2 : u < (x.length : Int) := z3
      obtain ⟨q6, V1, X1, y7, L, E, O1, R1⟩ := at_T71 E3.out u i2 m2
      have g1 := E
      have i1 := L
      obtain rfl : J = q6 := (by injection y7)
      (try replace L := zX HB L)
      have S1 := E
      (try replace E := zX HB E)
      have B3 := zK R1
      have i9 := zK O1
      clear R1 O1
      replace i2 := eq_true i2
      replace m2 := eq_true m2
      have j2 : 0 ≤ (((rd_T71 x u).f0) : Int) := z3
      have n2 : ((rd_T71 x u).f0) < (A.length : Int) := z3
      obtain ⟨d3, A7, M⟩ := Kd.at_int U1.out ((rd_T71 x u).f0) j2 n2
      have j1 := M
      cases A7
      (try replace M := zX HB M)
      replace j2 := eq_true j2
      replace n2 := eq_true n2
      have a5 : 0 ≤ (u : Int) := z3
      have b5 : u < (x.length : Int) := z3
      obtain ⟨J9, a5j, a5l, a0f, m1, m0, C3, D3⟩ := at_T71 E3.out u a5 b5
      have O2 := m0
      have R2 := m1
      obtain rfl : J = J9 := (by injection a0f)
      (try replace m1 := zX HB m1)
      have I6 := m0
      (try replace m0 := zX HB m0)
      have J6 := zK D3
      have a3y := zK C3
      clear D3 C3
      replace a5 := eq_true a5
      replace b5 := eq_true b5
      have ea_ := z5 (by first | exact E.symm.trans m0 | exact S1.symm.trans I6)
      injection ea_ with ea_ en_ ec_
      subst ea_
      subst ec_
      clear en_
      (try (have ea_ := z5 (by first | exact S1.symm.trans l9 | exact E.symm.trans A3); injection ea_ with ea_ en_ ec_; subst ea_; subst ec_; clear en_))
      refine start_ (n := 49) (S := fun w' => w'.cell? ⟨B, 0, none⟩ = some (.slice (some d3) A.length y0) ∧ w'.cell? ⟨B, 1, none⟩ = some (.slice L0 D.length M0) ∧ w'.cell? ⟨B, 2, none⟩ = some (.slice (some J) x.length N0) ∧ w'.cell? ⟨B, 3, none⟩ = some (.slice T1 q.length O0) ∧ w'.cell? ⟨B, 4, none⟩ = some (.slice R0 I.length S0) ∧ w'.cell? (J.add ((u).toNat * 2)) = some (.int .i64 ((rd_T71 x u).f0)) ∧ w'.cell? ⟨(J.add ((u).toNat * 2)).block, (J.add ((u).toNat * 2)).off + 1, none⟩ = some (.slice V1 ((rd_T71 x u).f1).length X1) ∧ w'.cell? (d3.add (((rd_T71 x u).f0)).toNat) = some (.int .i64 (rd A ((rd_T71 x u).f0))) ∧ w'.cell? (J.add ((u).toNat * 2)) = some (.int .i64 ((rd_T71 x u).f0)) ∧ w'.cell? ⟨(J.add ((u).toNat * 2)).block, (J.add ((u).toNat * 2)).off + 1, none⟩ = some (.slice V1 ((rd_T71 x u).f1).length X1)) (ds := []) (bl 49 0) (by kernel_rfl) rfl (by kernel_rfl) ⟨zy a 0, zy a 1, zy a 2, zy a 3, zy a 4, (zX HB i1:), (zX HB g1:), (zX HB j1:), (zX HB R2:), (zX HB O2:)⟩ (fun hHeld => ?_); refine with_tabW spec_NestOk.tab19 spec_NestOk.bits19 (fun HT_ HW_ => ?_)
      generalize wr.drew = w58 at z a HB B3 J6 L E M m1 m0 hHeld ⊢
      refine zP 0 107 (bl 49 1) HT_ ?_
      refine zP 1 108 (bl 49 3) HT_ ?_
      refine zP 2 109 (bl 49 7) HT_ ?_
      refine zP 3 110 (bl 49 15) HT_ ?_
      refine zP 4 111 (bl 49 31) HT_ ?_
      refine zT 5 112 (bl 49 63) rfl rfl HT_ HW_ hHeld (by rintro w' ⟨s0, s1, s2, s3, s4, s5, s6, s7, s8, s9⟩; go_simp; with_reducible rfl) ?_
      refine zP 6 113 (bl 49 127) HT_ ?_
      refine zP 7 114 (bl 49 255) HT_ ?_
      refine zP 8 115 (bl 49 511) HT_ ?_
      refine zP 9 116 (bl 49 1023) HT_ ?_
      refine zP 10 117 (bl 49 2047) HT_ ?_
      refine zP 11 118 (bl 49 4095) HT_ ?_
      refine one_ (i := 12) (N := some 119) (bl 49 8191) rfl rfl (one_of HT_.out (by kernel_rfl)) (by decide) (fun K hK => ?_)
      refine goes_ Try.func39 (by kernel_rfl) rfl #[.slice a7x x0.length a7y, .int .i64 ((rd_T71 x u).f0)] (by rfl) rfl rfl zL ?_
      refine (spec_l7Has.calls k4 _ _ x0 ((rd_T71 x u).f0) false _ (zC (Kd.R_reads' z.out).2.2) ((Kd.R_reads' z.out).2.1) A47.out).mono ?_
      rintro e w' ⟨rfl, ⟨nd, rfl⟩⟩
      refine ⟨_, rfl, ?_⟩
      refine hK.out _ _ ⟨zy a 0, zy a 1, zy a 2, zy a 3, zy a 4, (zX HB i1:), (zX HB g1:), (zX HB j1:), (zX HB R2:), (zX HB O2:)⟩ (fun hHeld => ?_)
      clear hK K
      refine zU 119 ?_
      refine zP 13 120 (bl 49 16383) HT_ ?_
      refine zP 14 121 (bl 49 32767) HT_ ?_
      refine zP 15 122 (bl 49 65535) HT_ ?_
      refine zP 17 124 (bl 49 196607) HT_ ?_
      refine zP 22 129 (bl 49 4390911) HT_ ?_
      refine zP 24 131 (bl 49 21168127) HT_ ?_
      refine zT 16 123 (bl 49 21233663) rfl rfl HT_ HW_ hHeld (by rintro w' ⟨s0, s1, s2, s3, s4, s5, s6, s7, s8, s9⟩; go_simp; with_reducible rfl) ?_
      refine zP 18 125 (bl 49 21495807) HT_ ?_
      refine zP 19 126 (bl 49 22020095) HT_ ?_
      refine zT 20 127 (bl 49 23068671) rfl rfl HT_ HW_ hHeld (by rintro w' ⟨s0, s1, s2, s3, s4, s5, s6, s7, s8, s9⟩; go_simp; with_reducible rfl) ?_
      refine zP 21 128 (bl 49 25165823) HT_ ?_
      refine zT 23 130 (bl 49 33554431) rfl rfl HT_ HW_ hHeld (by rintro w' ⟨s0, s1, s2, s3, s4, s5, s6, s7, s8, s9⟩; go_simp; with_reducible rfl) ?_
      refine zP 25 132 (bl 49 67108863) HT_ ?_
      refine zT 26 133 (bl 49 134217727) rfl rfl HT_ HW_ hHeld (by rintro w' ⟨s0, s1, s2, s3, s4, s5, s6, s7, s8, s9⟩; go_simp; with_reducible rfl) ?_
      refine zP 27 134 (bl 49 268435455) HT_ ?_
      refine zP 28 135 (bl 49 536870911) HT_ ?_
      refine zP 29 136 (bl 49 1073741823) HT_ ?_
      refine zP 30 137 (bl 49 2147483647) HT_ ?_
      refine zP 32 139 (bl 49 6442450943) HT_ ?_
      refine zT 31 138 (bl 49 8589934591) rfl rfl HT_ HW_ hHeld (by rintro w' ⟨s0, s1, s2, s3, s4, s5, s6, s7, s8, s9⟩; go_simp; with_reducible rfl) ?_
      refine zP 33 140 (bl 49 17179869183) HT_ ?_
      refine zP 34 141 (bl 49 34359738367) HT_ ?_
      refine zT 35 142 (bl 49 68719476735) rfl rfl HT_ HW_ hHeld (by rintro w' ⟨s0, s1, s2, s3, s4, s5, s6, s7, s8, s9⟩; go_simp; with_reducible rfl) ?_
      refine zP 36 143 (bl 49 137438953471) HT_ ?_
      refine zP 37 144 (bl 49 274877906943) HT_ ?_
      refine zP 38 145 (bl 49 549755813887) HT_ ?_
      refine zO 39 146 (bl 49 1099511627775) HT_ ?_
      refine zO 40 147 (bl 49 2199023255551) HT_ ?_
      refine zO 41 148 (bl 49 4398046511103) HT_ ?_
      refine zO 42 149 (bl 49 8796093022207) HT_ ?_
      refine zO 43 150 (bl 49 17592186044415) HT_ ?_
      refine zO 44 151 (bl 49 35184372088831) HT_ ?_
      refine zO 45 152 (bl 49 70368744177663) HT_ ?_
      refine zO 46 153 (bl 49 140737488355327) HT_ ?_
      refine zP 47 154 (bl 49 281474976710655) HT_ ?_
      refine zP 48 155 (bl 49 562949953421311) HT_ ?_
      refine done_ (done_of HT_.out (by kernel_rfl)) ?_
      try go_wp2
      go_meet
      case rel => exact ⟨_, (false), zR, H', ⟨by have := a3.out; have := b3.out; have := J3.out; have := U4.out; first | omega | exact Nat.le_refl _⟩, ⟨zkR z⟩, ⟨zM a⟩, ⟨zB⟩⟩
    rw [if_pos j9] at H
    have a6e := z1 j9
    have a6f : decide (0 < ((rd_T71 x u).f1).length) = true := z1 (by omega)
    clear j9
    replace H := z6 H
    obtain ⟨a5m, a5n, H⟩ := H
    have A55 := zK a5n
    clear a5n
    have H' := zK H
    clear H
    try go_wp2
    have n0 := zK (Kd.R_drew z.out)
    have o0 := zK (zd a.out)
    have p0 := zK (ze HB.out)
    revert n0 o0 p0
    clear z a HB
    intro z a HB
    obtain ⟨a7z, a8a, a5o⟩ := Kd.R_slice z.out
    (first | subst a5o | (injection a5o with f1_ f2_ f3_; have f4_ := f1_.symm; have f5_ := f3_.symm; clear f1_ f2_ f3_; subst f4_; subst f5_))
    have i2 : 0 ≤ (u : Int) := z3
    have m2 : u < (x.length : Int) := z3
    obtain ⟨q6, V1, X1, y7, L, E, O1, R1⟩ := at_T71 E3.out u i2 m2
    have g1 := E
    have i1 := L
    obtain rfl : J = q6 := (by injection y7)
    (try replace L := zX HB L)
    have S1 := E
    (try replace E := zX HB E)
    have B3 := zK R1
    have i9 := zK O1
    clear R1 O1
    replace i2 := eq_true i2
    replace m2 := eq_true m2
    have j2 : 0 ≤ (((rd_T71 x u).f0) : Int) := z3
    have n2 : ((rd_T71 x u).f0) < (A.length : Int) := z3
    obtain ⟨d3, A7, M⟩ := Kd.at_int U1.out ((rd_T71 x u).f0) j2 n2
    have j1 := M
    cases A7
    (try replace M := zX HB M)
    replace j2 := eq_true j2
    replace n2 := eq_true n2
    have a5 : 0 ≤ (u : Int) := z3
    have b5 : u < (x.length : Int) := z3
    obtain ⟨J9, a5j, a5l, a0f, m1, m0, C3, D3⟩ := at_T71 E3.out u a5 b5
    have O2 := m0
    have R2 := m1
    obtain rfl : J = J9 := (by injection a0f)
    (try replace m1 := zX HB m1)
    have I6 := m0
    (try replace m0 := zX HB m0)
    have J6 := zK D3
    have a3y := zK C3
    clear D3 C3
    replace a5 := eq_true a5
    replace b5 := eq_true b5
    have ea_ := z5 (by first | exact E.symm.trans m0 | exact S1.symm.trans I6)
    injection ea_ with ea_ en_ ec_
    subst ea_
    subst ec_
    clear en_
    (try (have ea_ := z5 (by first | exact S1.symm.trans l9 | exact E.symm.trans A3); injection ea_ with ea_ en_ ec_; subst ea_; subst ec_; clear en_))
    have a0g : 0 ≤ (u : Int) := z3
    have a0j : u < (x.length : Int) := z3
    obtain ⟨a6g, b2g, b2j, a8b, S4, T2, m9, n9⟩ := at_T71 E3.out u a0g a0j
    have L6 := T2
    have M6 := S4
    obtain rfl : J = a6g := (by injection a8b)
    (try replace S4 := zX HB S4)
    have a3z := T2
    (try replace T2 := zX HB T2)
    have o9 := zK n9
    have a4a := zK m9
    clear n9 m9
    replace a0g := eq_true a0g
    replace a0j := eq_true a0j
    have ea_ := z5 (by first | exact E.symm.trans T2 | exact S1.symm.trans a3z)
    injection ea_ with ea_ en_ ec_
    subst ea_
    subst ec_
    clear en_
    (try (have ea_ := z5 (by first | exact S1.symm.trans l9 | exact E.symm.trans A3); injection ea_ with ea_ en_ ec_; subst ea_; subst ec_; clear en_))
    refine start_ (n := 49) (S := fun w' => w'.cell? ⟨B, 0, none⟩ = some (.slice (some d3) A.length y0) ∧ w'.cell? ⟨B, 1, none⟩ = some (.slice L0 D.length M0) ∧ w'.cell? ⟨B, 2, none⟩ = some (.slice (some J) x.length N0) ∧ w'.cell? ⟨B, 3, none⟩ = some (.slice T1 q.length O0) ∧ w'.cell? ⟨B, 4, none⟩ = some (.slice R0 I.length S0) ∧ w'.cell? (J.add ((u).toNat * 2)) = some (.int .i64 ((rd_T71 x u).f0)) ∧ w'.cell? ⟨(J.add ((u).toNat * 2)).block, (J.add ((u).toNat * 2)).off + 1, none⟩ = some (.slice V1 ((rd_T71 x u).f1).length X1) ∧ w'.cell? (d3.add (((rd_T71 x u).f0)).toNat) = some (.int .i64 (rd A ((rd_T71 x u).f0))) ∧ w'.cell? (J.add ((u).toNat * 2)) = some (.int .i64 ((rd_T71 x u).f0)) ∧ w'.cell? ⟨(J.add ((u).toNat * 2)).block, (J.add ((u).toNat * 2)).off + 1, none⟩ = some (.slice V1 ((rd_T71 x u).f1).length X1) ∧ w'.cell? (J.add ((u).toNat * 2)) = some (.int .i64 ((rd_T71 x u).f0)) ∧ w'.cell? ⟨(J.add ((u).toNat * 2)).block, (J.add ((u).toNat * 2)).off + 1, none⟩ = some (.slice V1 ((rd_T71 x u).f1).length X1)) (ds := []) (bl 49 0) (by kernel_rfl) rfl (by kernel_rfl) ⟨zy a 0, zy a 1, zy a 2, zy a 3, zy a 4, (zX HB i1:), (zX HB g1:), (zX HB j1:), (zX HB R2:), (zX HB O2:), (zX HB M6:), (zX HB L6:)⟩ (fun hHeld => ?_); refine with_tabW spec_NestOk.tab19 spec_NestOk.bits19 (fun HT_ HW_ => ?_)
    generalize wr.drew = w56 at z a HB B3 J6 o9 L E M m1 m0 S4 T2 hHeld ⊢
    refine zP 0 107 (bl 49 1) HT_ ?_
    refine zP 1 108 (bl 49 3) HT_ ?_
    refine zP 2 109 (bl 49 7) HT_ ?_
    refine zP 3 110 (bl 49 15) HT_ ?_
    refine zP 4 111 (bl 49 31) HT_ ?_
    refine zT 5 112 (bl 49 63) rfl rfl HT_ HW_ hHeld (by rintro w' ⟨s0, s1, s2, s3, s4, s5, s6, s7, s8, s9, x1, y1⟩; go_simp; with_reducible rfl) ?_
    refine zP 6 113 (bl 49 127) HT_ ?_
    refine zP 7 114 (bl 49 255) HT_ ?_
    refine zP 8 115 (bl 49 511) HT_ ?_
    refine zP 9 116 (bl 49 1023) HT_ ?_
    refine zP 10 117 (bl 49 2047) HT_ ?_
    refine zP 11 118 (bl 49 4095) HT_ ?_
    refine one_ (i := 12) (N := some 119) (bl 49 8191) rfl rfl (one_of HT_.out (by kernel_rfl)) (by decide) (fun K hK => ?_)
    refine goes_ Try.func39 (by kernel_rfl) rfl #[.slice a7z x0.length a8a, .int .i64 ((rd_T71 x u).f0)] (by rfl) rfl rfl zL ?_
    refine (spec_l7Has.calls k4 _ _ x0 ((rd_T71 x u).f0) false _ (zC (Kd.R_reads' z.out).2.2) ((Kd.R_reads' z.out).2.1) A47.out).mono ?_
    rintro e w' ⟨rfl, ⟨nd, rfl⟩⟩
    refine ⟨_, rfl, ?_⟩
    refine hK.out _ _ ⟨zy a 0, zy a 1, zy a 2, zy a 3, zy a 4, (zX HB i1:), (zX HB g1:), (zX HB j1:), (zX HB R2:), (zX HB O2:), (zX HB M6:), (zX HB L6:)⟩ (fun hHeld => ?_)
    clear hK K
    refine zU 119 ?_
    refine zP 13 120 (bl 49 16383) HT_ ?_
    refine zP 14 121 (bl 49 32767) HT_ ?_
    refine zP 15 122 (bl 49 65535) HT_ ?_
    refine zP 17 124 (bl 49 196607) HT_ ?_
    refine zP 22 129 (bl 49 4390911) HT_ ?_
    refine zP 24 131 (bl 49 21168127) HT_ ?_
    refine zT 16 123 (bl 49 21233663) rfl rfl HT_ HW_ hHeld (by rintro w' ⟨s0, s1, s2, s3, s4, s5, s6, s7, s8, s9, x1, y1⟩; go_simp; with_reducible rfl) ?_
    refine zP 18 125 (bl 49 21495807) HT_ ?_
    refine zP 19 126 (bl 49 22020095) HT_ ?_
    refine zT 20 127 (bl 49 23068671) rfl rfl HT_ HW_ hHeld (by rintro w' ⟨s0, s1, s2, s3, s4, s5, s6, s7, s8, s9, x1, y1⟩; go_simp; with_reducible rfl) ?_
    refine zP 21 128 (bl 49 25165823) HT_ ?_
    refine zT 23 130 (bl 49 33554431) rfl rfl HT_ HW_ hHeld (by rintro w' ⟨s0, s1, s2, s3, s4, s5, s6, s7, s8, s9, x1, y1⟩; go_simp; with_reducible rfl) ?_
    refine zP 25 132 (bl 49 67108863) HT_ ?_
    refine zT 26 133 (bl 49 134217727) rfl rfl HT_ HW_ hHeld (by rintro w' ⟨s0, s1, s2, s3, s4, s5, s6, s7, s8, s9, x1, y1⟩; go_simp; with_reducible rfl) ?_
    refine zP 27 134 (bl 49 268435455) HT_ ?_
    refine zP 28 135 (bl 49 536870911) HT_ ?_
    refine zP 29 136 (bl 49 1073741823) HT_ ?_
    refine zP 30 137 (bl 49 2147483647) HT_ ?_
    refine zP 32 139 (bl 49 6442450943) HT_ ?_
    refine zT 31 138 (bl 49 8589934591) rfl rfl HT_ HW_ hHeld (by rintro w' ⟨s0, s1, s2, s3, s4, s5, s6, s7, s8, s9, x1, y1⟩; go_simp; with_reducible rfl) ?_
    refine zP 33 140 (bl 49 17179869183) HT_ ?_
    refine zP 34 141 (bl 49 34359738367) HT_ ?_
    refine zT 35 142 (bl 49 68719476735) rfl rfl HT_ HW_ hHeld (by rintro w' ⟨s0, s1, s2, s3, s4, s5, s6, s7, s8, s9, x1, y1⟩; go_simp; with_reducible rfl) ?_
    refine zP 36 143 (bl 49 137438953471) HT_ ?_
    refine zP 37 144 (bl 49 274877906943) HT_ ?_
    refine zP 38 145 (bl 49 549755813887) HT_ ?_
    refine zP 39 146 (bl 49 1099511627775) HT_ ?_
    refine zP 41 148 (bl 49 3298534883327) HT_ ?_
    refine zT 40 147 (bl 49 4398046511103) rfl rfl HT_ HW_ hHeld (by rintro w' ⟨s0, s1, s2, s3, s4, s5, s6, s7, s8, s9, x1, y1⟩; go_simp; with_reducible rfl) ?_
    refine zP 42 149 (bl 49 8796093022207) HT_ ?_
    refine zP 43 150 (bl 49 17592186044415) HT_ ?_
    refine zT 44 151 (bl 49 35184372088831) rfl rfl HT_ HW_ hHeld (by rintro w' ⟨s0, s1, s2, s3, s4, s5, s6, s7, s8, s9, x1, y1⟩; go_simp; with_reducible rfl) ?_
    refine one_ (i := 45) (N := some 152) (bl 49 70368744177663) rfl rfl (one_of HT_.out (by kernel_rfl)) (by decide) (fun K hK => ?_)
    refine goes_ Try.func40 (by kernel_rfl) rfl #[.slice V1 ((rd_T71 x u).f1).length X1] (by rfl) rfl rfl zL ?_
    refine (spec_l5RowOk.calls k4 _ _ ((rd_T71 x u).f1) a5m _ (zS o9) a4a.out A55.out).mono ?_
    rintro e w' ⟨rfl, ⟨nd, rfl⟩⟩
    refine ⟨_, rfl, ?_⟩
    refine hK.out _ _ ⟨zy a 0, zy a 1, zy a 2, zy a 3, zy a 4, (zX HB i1:), (zX HB g1:), (zX HB j1:), (zX HB R2:), (zX HB O2:), (zX HB M6:), (zX HB L6:)⟩ (fun hHeld => ?_)
    clear hK K
    refine zU 152 ?_
    refine zP 46 153 (bl 49 140737488355327) HT_ ?_
    refine zP 47 154 (bl 49 281474976710655) HT_ ?_
    refine zP 48 155 (bl 49 562949953421311) HT_ ?_
    refine done_ (done_of HT_.out (by kernel_rfl)) ?_
    try go_wp2
    go_meet
    case rel => exact ⟨_, (!a5m), zR, H', ⟨by have := a3.out; have := b3.out; have := J3.out; have := U4.out; first | omega | exact Nat.le_refl _⟩, ⟨zkR z⟩, ⟨zM a⟩, ⟨zB⟩⟩
   case rest =>
    clear a0c
    try clear c1
    try clear p1
    try clear q1
    try clear hx1
    try clear p2
    try clear c3
    try clear c5
    try clear c16
    try clear p16
    try clear q16
    try clear a4t
    try clear T6
    try clear I8
    try clear J8
    try clear b6
    try clear F9
    try clear G9
    try clear L
    try clear E
    try clear M
    try clear i2
    try clear j2
    try clear m2
    try clear n2
    obtain ⟨kq, R4, rfl, HA, a5p, z, a, HB⟩ := hcut
    cases kq with
    | zero => exact absurd HA.out (by simp [spec_NestOk.j4])
    | succ a5q =>
     have H := HA.out
     clear HA
     simp only [spec_NestOk.j4] at H
     by_cases R9 : R4 = true
     · subst R9
       rw [if_pos rfl] at H
       obtain rfl := z5 H
       go_wp2
       go_ret
       exact ⟨zE, zB⟩
     replace R9 := Bool.eq_false_iff.mpr R9
     subst R9
     rw [if_neg (show ¬ (false = true) by decide)] at H
     by_cases S9 : x0.length < 17592186044416
     rotate_left
     · rw [if_neg S9] at H
       exact absurd H (by simp)
     rw [if_pos S9] at H
     have LMc63 := zK S9
     clear S9
     obtain ⟨a5s, t6⟩ : ∃ y_ : List Int, y_ = (x0 ++ [((rd_T71 x u).f0)]) := ⟨_, rfl⟩
     replace H : (spec_NestOk.l2 a5q a5s (wrap64 (u + 1)) A D x q I) = some r := by first | (rw [t6]; with_reducible exact H) | (have L3 := (Option.bind_some _ _).symm.trans H; rw [t6]; with_reducible exact L3) | (have L3 := (Option.bind_some _ _).symm.trans H; with_reducible exact L3) | with_reducible exact H | (rw [t6]; exact H) | exact H
     have Ny172 := zK t6
     clear t6
     have H' := zK H
     clear H
     go_wp2_with (first | ((with_reducible refine gate_builtin (b := .append) (xs := #[.tmp 156, .tmp 158]) rfl ?_); (try (refine gate_guard (by rfl) ?_; dsimp only)); at_builtin; refine Kd.R_append (Kd.int .i64) (w0 := w) w.heap.size rfl (.tmp 156) (.tmp 158) 22 3 (.int .i64 0) 8 rfl Try.underlying22 info3 rfl (by decide) (by omega) u4 x0 ((rd_T71 x u).f0) [.int .i64 ((rd_T71 x u).f0)] (fun _ => True) (fun _ => False) rfl rfl ?aP (fun _ hk => hk.elim) ?aF ?aO ?aB ?aS ?aL ?_; (case aP => exact rfl); (case aB => exact zB); (case aF => exact (fun _ _ => trivial)); (case aO => exact (zkR z)); (case aS => exact (zz zB)); (case aL => have := LMc63.out; omega); intro v173 w64 ho hb hg hat; rw [← Ny172.out] at ho; have n0 := zK (blk_grown (zM a) hg (Kd.R_ne z.out a.out (by decide))); have o0 := zK (hb); have p0 := zK (ho); revert n0 o0 p0; clear a HB z; intro a HB a6j; clear ho hb hg hat))
     go_roundg a5q
     case measure => have := a3.out; have := b3.out; have := J3.out; have := U4.out; have := a5p.out; omega
     case rel => exact ⟨(a5s), (wrap64 (u + 1)), zR, H', ⟨by have := a3.out; have := b3.out; have := J3.out; have := U4.out; have := a5p.out; omega⟩, ⟨zkR a6j⟩, ⟨zM a⟩, ⟨zB⟩⟩
end Go.Proofs.Ytmcboiffbcnalaa.PFnExactPlanOk
