-- Printed out of the translation by this session's own turned copy of a printer; Lean checks it.
import Derived.Test.YtmcboiffbcnalaaPFnExactLivesx0
import Derived.Test.YtmcboiffbcnalaaPFnExactLivesx2
import Derived.Test.YtmcboiffbcnalaaPFnExactLivesx5
namespace Go.Proofs.Ytmcboiffbcnalaa.PFnExactLives
open Go.RowKit Go.Proofs.YtmcboiffbcnalaaW.PrintWords Go.Proofs.YtmcboiffbcnalaaW.PrintLast Go.Proofs.YtmcboiffbcnalaaW.PrintMore
attribute [local go_sem] max2_int min2_int max_two min_two max_three min_three max_four min_four
set_option linter.unusedVariables false
set_option linter.unusedSimpArgs false
set_option maxHeartbeats 8000000
set_option maxRecDepth 100000
mutual
def spec_NestOk.j0 : Nat → Bool → List Int → List Int → List (S71) → List (S79) → List Int → Option (Bool)
 | 0, _, _, _, _, _, _ => none
 | k + 1, A, l, q, u, y, z => if A = true then (some false) else (spec_NestOk.l0 k 0 l q u y z)
def spec_NestOk.l0 : Nat → Int → List Int → List Int → List (S71) → List (S79) → List Int → Option (Bool)
 | 0, _, _, _, _, _, _ => none
 | k + 1, A, l, q, u, y, z => if A < (l.length : Int) then (if 0 ≤ A then (if (rd l A) < 0 then (some false) else (if (rd l A) > 4096 then (some false) else (spec_NestOk.l0 k (wrap64 (A + 1)) l q u y z))) else (none)) else (spec_NestOk.l1 k (([] : List Int)) 0 l q u y z)
def spec_NestOk.l1 : Nat → List Int → Int → List Int → List Int → List (S71) → List (S79) → List Int → Option (Bool)
 | 0, _, _, _, _, _, _, _ => none
 | k + 1, B, A, q, l, u, y, z => if A < (l.length : Int) then (if 0 ≤ A then ((spec_l7Has.f k B (rd l A)).bind fun E => (if E = true then (some false) else (if B.length < 17592186044416 then (spec_NestOk.l1 k (B ++ [rd l A]) (wrap64 (A + 1)) q l u y z) else (none)))) else (none)) else (spec_NestOk.l2 k B 0 q l u y z)
def spec_NestOk.l2 : Nat → List Int → Int → List Int → List Int → List (S71) → List (S79) → List Int → Option (Bool)
 | 0, _, _, _, _, _, _, _ => none
 | k + 1, B, A, q, u, l, y, z => if A < (l.length : Int) then (if 0 ≤ A then (if ((rd_T71 l A).f0) < 0 then (spec_NestOk.j4 k B A ((rd_T71 l A).f0) true q u l y z) else (if ((rd_T71 l A).f0) ≥ (q.length : Int) then (spec_NestOk.j4 k B A ((rd_T71 l A).f0) true q u l y z) else ((spec_l7Has.f k B ((rd_T71 l A).f0)).bind fun E => (if E = true then (spec_NestOk.j4 k B A ((rd_T71 l A).f0) true q u l y z) else (if 0 ≤ ((rd_T71 l A).f0) then (if ((rd_T71 l A).f0) < (q.length : Int) then (if (((rd_T71 l A).f1).length : Int) = (rd q ((rd_T71 l A).f0)) then (if (((rd_T71 l A).f1).length : Int) > 0 then ((spec_l5RowOk.f k ((rd_T71 l A).f1)).bind fun I => (spec_NestOk.j4 k B A ((rd_T71 l A).f0) (!I) q u l y z)) else (spec_NestOk.j4 k B A ((rd_T71 l A).f0) false q u l y z)) else (spec_NestOk.j4 k B A ((rd_T71 l A).f0) true q u l y z)) else (none)) else (none)))))) else (none)) else (spec_NestOk.l3 k B 0 0 q u l y z)
def spec_NestOk.j4 : Nat → List Int → Int → Int → Bool → List Int → List Int → List (S71) → List (S79) → List Int → Option (Bool)
 | 0, _, _, _, _, _, _, _, _, _ => none
 | k + 1, B, E, I, A, l, q, u, y, z => if A = true then (some false) else (if B.length < 17592186044416 then (spec_NestOk.l2 k (B ++ [I]) (wrap64 (E + 1)) l q u y z) else (none))
def spec_NestOk.l3 : Nat → List Int → Int → Int → List Int → List Int → List (S71) → List (S79) → List Int → Option (Bool)
 | 0, _, _, _, _, _, _, _, _ => none
 | k + 1, J, L, q, u, y, z, l, A => if q < (l.length : Int) then (if 0 ≤ q then ((spec_l11Kernel.f k ((rd_T79 l q).f0) ((rd_T79 l q).f1) ((rd_T79 l q).f2.f0) ((rd_T79 l q).f2.f1) ((rd_T79 l q).f2.f2) ((rd_T79 l q).f3) ((rd_T79 l q).f4) u).bind fun B => (if B = true then ((spec_l7Has.f k J ((rd_T79 l q).f2.f0)).bind fun E => (if E = true then (some false) else ((spec_l11Product.f k ((rd_T79 l q).f0)).bind fun I => (spec_NestOk.l3 k J (wrap64 (L + I)) (wrap64 (q + 1)) u y z l A)))) else (some false))) else (none)) else (some (decide (L ≤ 1000000)))
end
def spec_NestOk.f (k : Nat) (l : List Int) (q : List Int) (z : List (S71)) (y : List (S79)) (u : List Int) : Option (Bool) := if (l.length : Int) > 200 then (spec_NestOk.j0 k true l q z y u) else (if (q.length : Int) > 40 then (spec_NestOk.j0 k true l q z y u) else (if (u.length : Int) > 40 then (spec_NestOk.j0 k true l q z y u) else (if (y.length : Int) > 400 then (spec_NestOk.j0 k true l q z y u) else ((spec_l4Within.f k q (l.length : Int)).bind fun A => (if A = true then ((spec_l4Within.f k u (l.length : Int)).bind fun B => (spec_NestOk.j0 k (!B) l q z y u)) else (spec_NestOk.j0 k true l q z y u))))))
def spec_NestOk.T19 : Bool × List (List Nat × List Nat) := (true, [([], []), ([0], [0]), ([1], [1]), ([2], [2]), ([2], [2]), ([4, 2], [2, 4]), ([5, 2], [2, 5]), ([3, 6, 2], [2, 3, 6]), ([2, 7], [2, 7]), ([8, 2], [8]), ([9], [9]), ([9], [9]), ([10, 11, 9, 9], [9, 10, 11]), ([9, 12], [9, 12]), ([13, 12], [13]), ([14], [14]), ([15, 14], [14, 15]), ([14], [14]), ([16, 17, 14], [14, 16, 17]), ([18, 14], [14, 18]), ([19, 14], [14, 19]), ([20, 14], [14, 20]), ([14], [14]), ([22, 14], [14, 22]), ([14], [14]), ([23, 24, 14], [14, 23, 24]), ([25, 14], [14, 25]), ([21, 26, 14], [14, 21, 26]), ([14, 27], [14, 27]), ([28, 14], [28]), ([29], [29]), ([30, 29], [29, 30]), ([29], [29]), ([31, 32, 29], [29, 31, 32]), ([33, 29], [29, 33]), ([34, 29], [29, 34]), ([35, 29], [29, 35]), ([36, 29], [29, 36]), ([37, 29, 29], [29, 37]), ([38], [38]), ([39, 38], [38, 39]), ([38], [38]), ([40, 41, 38], [38, 40, 41]), ([42, 38], [38, 42]), ([43, 38], [38, 43]), ([44, 38, 38], [38, 44]), ([45, 38], [38, 45]), ([38, 46, 29], [29, 38, 46]), ([29, 47], [29, 47])])
def spec_NestOk.B19 : List Nat := [0, 1, 3, 7, 7, 23, 55, 127, 255, 511, 1023, 1023, 4095, 8191, 16383, 32767, 65535, 32767, 262143, 524287, 1048575, 2097151, 32767, 4227071, 32767, 29392895, 62947327, 134217727, 268435455, 536870911, 1073741823, 2147483647, 1073741823, 8589934591, 17179869183, 34359738367, 68719476735, 137438953471, 274877906943, 549755813887, 1099511627775, 549755813887, 4398046511103, 8796093022207, 17592186044415, 35184372088831, 70368744177663, 140737488355327, 281474976710655]
theorem spec_NestOk.tab19 : rtab .any (opsOf Try.f20 19) = spec_NestOk.T19 := by kernel_rfl
theorem spec_NestOk.bits19 : waitsOk spec_NestOk.T19.2 spec_NestOk.B19 = true := by kernel_rfl
def spec_NestOk.T26 : Bool × List (List Nat × List Nat) := (true, [([], []), ([0], [0]), ([], []), ([1, 2], [1, 2]), ([3], [3]), ([], []), ([5], [5]), ([4, 6], [4, 6]), ([7], [7]), ([8, 7], [8]), ([9], [9]), ([9], [9]), ([11, 9], [9, 11]), ([9], [9]), ([12, 13, 9], [9, 12, 13]), ([14, 9], [9, 14]), ([15, 9], [9, 15]), ([16, 9], [9, 16]), ([10, 17, 9, 9], [9, 10, 17]), ([9, 18], [9, 18])])
def spec_NestOk.B26 : List Nat := [0, 1, 0, 7, 15, 0, 32, 127, 255, 511, 1023, 1023, 3071, 1023, 15359, 31743, 64511, 130047, 262143, 524287]
theorem spec_NestOk.tab26 : rtab .any (opsOf Try.f20 26) = spec_NestOk.T26 := by kernel_rfl
theorem spec_NestOk.bits26 : waitsOk spec_NestOk.T26.2 spec_NestOk.B26 = true := by kernel_rfl
theorem spec_NestOk.calls (k) (N0) (C0) (E : List Int) (O0) (R0) (J : List Int) (a3) (S0) (z : List (S71)) (X1) (T0) (u : List (S79)) (U0) (V0) (M : List Int) (r : Bool) (w) (a0o : Kd.C (Kd.int .i64) w N0 E.length E) (a0p : E.length ≤ C0) (a0q : Kd.C (Kd.int .i64) w O0 J.length J) (a0s : J.length ≤ R0) (a0t : Kd.C k71 w a3 z.length z) (a0u : z.length ≤ S0) (a0x : Kd.C k79 w X1 u.length u) (a0y : u.length ≤ T0) (a0z : Kd.C (Kd.int .i64) w U0 M.length M) (a1a : M.length ≤ V0) (h : spec_NestOk.f k E J z u M = some r) :
 Calls Try.prog 20 #[.agg #[.slice N0 E.length C0, .slice O0 J.length R0, .slice a3 z.length S0, .slice X1 u.length T0, .slice U0 M.length V0]] w fun e w' => e = .returned (.bool r) ∧ Below w.heap.size w w' := by
 have b2z := Try.underlying34
 have b3a := Try.underlying79
 have a2 := zK a0o
 have x9 := zK a0p
 clear a0o a0p
 have g5 := zK a0q
 have a1b := zK a0s
 clear a0q a0s
 have I3 := zK a0t
 have b2o := zK a0u
 clear a0t a0u
 have T3 := zK a0x
 have b2p := zK a0y
 clear a0x a0y
 have a5t := zK a0z
 have a5u := zK a1a
 clear a0z a1a
 have HB := zK (Below.refl w.heap.size w)
 have H : (if (E.length : Int) > 200 then (spec_NestOk.j0 k true E J z u M) else (if (J.length : Int) > 40 then (spec_NestOk.j0 k true E J z u M) else (if (M.length : Int) > 40 then (spec_NestOk.j0 k true E J z u M) else (if (u.length : Int) > 400 then (spec_NestOk.j0 k true E J z u M) else ((spec_l4Within.f k J (E.length : Int)).bind fun X9 => (if X9 = true then ((spec_l4Within.f k M (E.length : Int)).bind fun y9 => (spec_NestOk.j0 k (!y9) E J z u M)) else (spec_NestOk.j0 k true E J z u M))))))) = some r := h
 clear h
 have HC2 := zK H
 clear H
 go_enter Try.func20, Try.ntmps20
 go_upto_region 1 with (first | ((with_reducible refine gd 1 rfl ?_); (try (refine gate_guard (by rfl) ?_; dsimp only)); refine zJ 1 #[.slice N0 E.length C0, .slice O0 J.length R0, .slice a3 z.length S0, .slice X1 u.length T0, .slice U0 M.length V0] 34 ?_; intro I hg w3 hbox hb; have q0 := z8 hb; have t0 := zK (hbox); have x0 := z9 hg; have n3_ := z9 hg; revert q0 t0 x0 n3_; clear HB; intro HB l b2q b2s; clear hb hbox hg))
 (try simp only [Act.put, zq1, zq2, zq3])
 go_cut [49] (fun v49 wc => ∃ (kq : Nat) (a7 : Bool), v49 = .bool a7 ∧ Aside0 (spec_NestOk.j0 kq a7 E J z u M = some r) ∧ Aside0 (kq ≤ k) ∧ Aside0 (wc.heap[I]? = some (.cells #[(.slice N0 E.length C0), (.slice O0 J.length R0), (.slice a3 z.length S0), (.slice X1 u.length T0), (.slice U0 M.length V0)] 34 (0, 0))) ∧ Aside0 (Below w.heap.size w wc))
 case first =>
  have H := HC2.out
  clear HC2
  by_cases c4 : (E.length : Int) > 200
  · rw [if_pos c4] at H
    have J3 := z1 c4
    have d7 : decide (200 < E.length) = true := z1 (by omega)
    clear c4
    (first | rw [J3] | (simp only [i64_w, i32_w]; rw [J3]) | skip)
    have H' := zK H
    clear H
    obtain ⟨i5, j5, l5, m5, n5, o5, p5, q5, t5, x5⟩ := zc5 l
    go_wp2
    go_meet
    case rel => exact ⟨_, (true), zR, H', ⟨by first | omega | exact Nat.le_refl _⟩, ⟨zM l⟩, ⟨zB⟩⟩
  rw [if_neg c4] at H
  have J3 := z2 c4
  have d7 : decide (200 < E.length) = false := z2 (by omega)
  clear c4
  (first | rw [J3] | (simp only [i64_w, i32_w]; rw [J3]) | skip)
  by_cases c6 : (J.length : Int) > 40
  · rw [if_pos c6] at H
    have f7 := z1 c6
    have g7 : decide (40 < J.length) = true := z1 (by omega)
    clear c6
    have H' := zK H
    clear H
    obtain ⟨y5, A5, B5, C5, D5, E5, F5, G5, I5, J5⟩ := zc5 l
    go_wp2
    go_meet
    case rel => exact ⟨_, (true), zR, H', ⟨by first | omega | exact Nat.le_refl _⟩, ⟨zM l⟩, ⟨zB⟩⟩
  rw [if_neg c6] at H
  have f7 := z2 c6
  have g7 : decide (40 < J.length) = false := z2 (by omega)
  clear c6
  by_cases c8 : (M.length : Int) > 40
  · rw [if_pos c8] at H
    have i7 := z1 c8
    have j7 : decide (40 < M.length) = true := z1 (by omega)
    clear c8
    have H' := zK H
    clear H
    obtain ⟨L5, M5, N5, O5, R5, S5, T5, U5, V5, X5⟩ := zc5 l
    go_wp2
    go_meet
    case rel => exact ⟨_, (true), zR, H', ⟨by first | omega | exact Nat.le_refl _⟩, ⟨zM l⟩, ⟨zB⟩⟩
  rw [if_neg c8] at H
  have i7 := z2 c8
  have j7 : decide (40 < M.length) = false := z2 (by omega)
  clear c8
  by_cases X4 : (u.length : Int) > 400
  · rw [if_pos X4] at H
    have a6 := z1 X4
    have b6 : decide (400 < u.length) = true := z1 (by omega)
    clear X4
    have H' := zK H
    clear H
    obtain ⟨U3, V3, X3, a4, b4, d4, e4, g4, i4, l4⟩ := zc5 l
    go_wp2
    go_meet
    case rel => exact ⟨_, (true), zR, H', ⟨by first | omega | exact Nat.le_refl _⟩, ⟨zM l⟩, ⟨zB⟩⟩
  rw [if_neg X4] at H
  have a6 := z2 X4
  have b6 : decide (400 < u.length) = false := z2 (by omega)
  clear X4
  replace H := z6 H
  obtain ⟨X9, a4f, H⟩ := H
  have A12 := zK a4f
  clear a4f
  by_cases S6 : X9 = true
  rotate_left
  · as_aux_lemma =>
    replace S6 := Bool.eq_false_iff.mpr S6
    subst S6
    rw [if_neg (show ¬ (false = true) by decide)] at H
    have H' := zK H
    clear H
    obtain ⟨m4, n4, o4, p4, q4, t4, x4, y4, A4, B4⟩ := zc5 l
    go_wp2_with (first | (go_at_call 38; (with_reducible refine (spec_l4Within.calls k _ _ J (E.length : Int) false _ ?side1 ?side2 A12.out).mono ?_); (case side1 => exact zS g5); (case side2 => exact a1b.out); rintro e w' ⟨rfl, ⟨nd, rfl⟩⟩))
    go_meet
    case rel => exact ⟨_, (true), zR, H', ⟨by first | omega | exact Nat.le_refl _⟩, ⟨zM l⟩, ⟨zB⟩⟩
  subst S6
  rw [if_pos rfl] at H
  replace H := z6 H
  obtain ⟨y9, a4g, H⟩ := H
  have A14 := zK a4g
  clear a4g
  have H' := zK H
  clear H
  obtain ⟨C4, D4, E4, F4, G4, I4, J4, L4, M4, N4⟩ := zc5 l
  go_wp2_with (first | (go_at_call 38; (with_reducible refine (spec_l4Within.calls k _ _ J (E.length : Int) true _ ?side1 ?side2 A12.out).mono ?_); (case side1 => exact zS g5); (case side2 => exact a1b.out); rintro e w' ⟨rfl, ⟨nd, rfl⟩⟩) | (go_at_call 38; (with_reducible refine (spec_l4Within.calls k _ _ M (E.length : Int) y9 _ ?side1 ?side2 A14.out).mono ?_); (case side1 => exact zS a5t); (case side2 => exact a5u.out); rintro e w' ⟨rfl, ⟨nd, rfl⟩⟩))
  go_meet
  case rel => exact ⟨_, (!y9), zR, H', ⟨by first | omega | exact Nat.le_refl _⟩, ⟨zM l⟩, ⟨zB⟩⟩
 case rest =>
  clear HC2
  try clear c1
  try clear c2
  try clear p2
  try clear c4
  try clear J3
  try clear d7
  try clear c6
  try clear f7
  try clear g7
  try clear c8
  try clear i7
  try clear j7
  try clear X4
  try clear a6
  try clear b6
  try clear S6
  try clear U3 V3 X3 a4 b4 d4 e4 g4 i4 l4
  try clear C4 D4 E4 F4 G4 I4 J4 L4 M4 N4
  try clear m4 n4 o4 p4 q4 t4 x4 y4 A4 B4
  try clear i5 j5 l5 m5 n5 o5 p5 q5 t5 x5
  try clear y5 A5 B5 C5 D5 E5 F5 G5 I5 J5
  try clear L5 M5 N5 O5 R5 S5 T5 U5 V5 X5
  obtain ⟨kq, a7, rfl, HA, e3, l, HB⟩ := hcut
  cases kq with
  | zero => exact absurd HA.out (by simp [spec_NestOk.j0])
  | succ kj1 =>
   have H := HA.out
   clear HA
   simp only [spec_NestOk.j0] at H
   by_cases l7 : a7 = true
   · subst l7
     rw [if_pos rfl] at H
     obtain rfl := z5 H
     go_wp2
     go_ret
     exact ⟨zE, zB⟩
   replace l7 := Bool.eq_false_iff.mpr l7
   subst l7
   rw [if_neg (show ¬ (false = true) by decide)] at H
   have H' := zK H
   clear H
   go_wp2
   go_loopg [3] kj1 (fun kq v3 w' => ∃ (y0 : Int), v3 = .int .i64 y0 ∧ Aside0 (spec_NestOk.l0 kq y0 E J z u M = some r) ∧ Aside0 (kq ≤ kj1) ∧ Aside0 (w'.heap[I]? = some (.cells #[(.slice N0 E.length C0), (.slice O0 J.length R0), (.slice a3 z.length S0), (.slice X1 u.length T0), (.slice U0 M.length V0)] 34 (0, 0))) ∧ Aside0 (Below w.heap.size w w'))
   case atStart => exact ⟨(0), zR, H', ⟨Nat.le_refl _⟩, ⟨zM l⟩, ⟨zB⟩⟩
   clear H'
   try clear c1
   try clear c2
   try clear p2
   try clear c4
   try clear J3
   try clear d7
   try clear c6
   try clear f7
   try clear g7
   try clear c8
   try clear i7
   try clear j7
   try clear X4
   try clear a6
   try clear b6
   try clear S6
   try clear l7
   try clear U3 V3 X3 a4 b4 d4 e4 g4 i4 l4
   try clear C4 D4 E4 F4 G4 I4 J4 L4 M4 N4
   try clear m4 n4 o4 p4 q4 t4 x4 y4 A4 B4
   try clear i5 j5 l5 m5 n5 o5 p5 q5 t5 x5
   try clear y5 A5 B5 C5 D5 E5 F5 G5 I5 J5
   try clear L5 M5 N5 O5 R5 S5 T5 U5 V5 X5
   try clear p2
   obtain ⟨y0, rfl, HA, g3, l, HB⟩ := hrel
   rcases gk with _ | k2
   · exact absurd HA.out (by simp [spec_NestOk.l0])
   have H := HA.out
   clear HA
   simp only [spec_NestOk.l0] at H
   by_cases T6 : y0 < (E.length : Int)
   · as_aux_lemma =>
     rw [if_pos T6] at H
     have B9 := z1 T6
     clear T6
     by_cases F7 : 0 ≤ y0
     rotate_left
     · rw [if_neg F7] at H
       exact absurd H (by simp)
     rw [if_pos F7] at H
     have a1c := z1 F7
     clear F7
     by_cases U6 : (rd E y0) < 0
     · as_aux_lemma =>
       rw [if_pos U6] at H
       have C9 := z1 U6
       clear U6
       obtain rfl := z5 H
       obtain ⟨G7, I7, J7, L7, M7, N7, O7, R7, S7, T7⟩ := zc5 l
       have i2 : 0 ≤ (y0 : Int) := z3
       have j2 : y0 < (E.length : Int) := z3
       obtain ⟨b7, m7, I0⟩ := Kd.at_int a2.out y0 i2 j2
       cases m7
       (try replace I0 := zX HB I0)
       replace i2 := eq_true i2
       replace j2 := eq_true j2
       go_wp2
       go_ret
       exact ⟨zE, zB⟩
     rw [if_neg U6] at H
     have C9 := z2 U6
     clear U6
     by_cases V6 : (rd E y0) > 4096
     · as_aux_lemma =>
       rw [if_pos V6] at H
       have D9 := z1 V6
       clear V6
       obtain rfl := z5 H
       obtain ⟨U7, V7, X7, a8, b8, d8, e8, f8, g8, i8⟩ := zc5 l
       have i2 : 0 ≤ (y0 : Int) := z3
       have j2 : y0 < (E.length : Int) := z3
       obtain ⟨b7, m7, I0⟩ := Kd.at_int a2.out y0 i2 j2
       cases m7
       (try replace I0 := zX HB I0)
       replace i2 := eq_true i2
       replace j2 := eq_true j2
       have L3 : 0 ≤ (y0 : Int) := z3
       have M3 : y0 < (E.length : Int) := z3
       obtain ⟨E9, a0a, m2⟩ := Kd.at_int a2.out y0 L3 M3
       obtain rfl : b7 = E9 := (by injection a0a)
       (try replace m2 := zX HB m2)
       replace L3 := eq_true L3
       replace M3 := eq_true M3
       go_wp2
       go_ret
       exact ⟨zE, zB⟩
     rw [if_neg V6] at H
     have D9 := z2 V6
     clear V6
     have H' := zK H
     clear H
     obtain ⟨j8, l8, m8, n8, o8, p8, q8, t8, x8, y8⟩ := zc5 l
     have i2 : 0 ≤ (y0 : Int) := z3
     have j2 : y0 < (E.length : Int) := z3
     obtain ⟨b7, m7, I0⟩ := Kd.at_int a2.out y0 i2 j2
     cases m7
     (try replace I0 := zX HB I0)
     replace i2 := eq_true i2
     replace j2 := eq_true j2
     have L3 : 0 ≤ (y0 : Int) := z3
     have M3 : y0 < (E.length : Int) := z3
     obtain ⟨E9, a0a, m2⟩ := Kd.at_int a2.out y0 L3 M3
     obtain rfl : b7 = E9 := (by injection a0a)
     (try replace m2 := zX HB m2)
     replace L3 := eq_true L3
     replace M3 := eq_true M3
     go_wp2
     go_roundg k2
     case measure => have := e3.out; have := g3.out; omega
     case rel => exact ⟨(wrap64 (y0 + 1)), zR, H', ⟨by have := e3.out; have := g3.out; omega⟩, ⟨zM l⟩, ⟨zB⟩⟩
   rw [if_neg T6] at H
   have B9 := z2 T6
   clear T6
   obtain ⟨a4l, d6⟩ : ∃ y_ : List Int, y_ = (([] : List Int)) := ⟨_, rfl⟩
   replace H : (spec_NestOk.l1 k2 a4l 0 E J z u M) = some r := by first | (rw [d6]; with_reducible exact H) | (have O3 := (Option.bind_some _ _).symm.trans H; rw [d6]; with_reducible exact O3) | (have O3 := (Option.bind_some _ _).symm.trans H; with_reducible exact O3) | with_reducible exact H | (rw [d6]; exact H) | exact H
   have Ny153 := zK d6
   clear d6
   have H' := zK H
   clear H
   obtain ⟨A8, B8, C8, D8, E8, F8, G8, I8, J8, L8⟩ := zc5 l
   go_wp2_with (first | ((with_reducible refine gd 71 rfl ?_); (try (refine gate_guard (by rfl) ?_; dsimp only)); refine Kd.R_lit (Kd.int .i64) _ 3 ?hg (N := 71) ?hd (xs := ([] : List Int)) (inner := []) (ok := fun _ => True) (okp := fun _ => True) ?hr ?hp (fun _ hk => hk) trivial (Below.refl _ _) (Nat.le_refl _) (by simp) ?_; (case hd => rfl); (case hg => rfl); (case hr => first | (go_simp; done) | (go_simp; rfl)); (case hp => exact (Reps.none _ _)); intro v154 w26 n7 hb hg_ hnew_; clear hg_ hnew_; (first | rw [← Ny153.out] at n7 | (simp only [Int.reduceToNat] at n7; rw [← Ny153.out] at n7)); have q0 := zK (Kd.R_lower n7 (zz zB)); have t0 := z7 l hb; have x0 := z8 hb; revert q0 t0 x0; clear l HB; intro a5x l HB; clear hb n7))
   go_loopg [4, 5] k2 (fun kq v4 v5 w' => ∃ (R2 : List Int) (A0 : Int), v5 = .int .i64 A0 ∧ Aside0 (spec_NestOk.l1 kq R2 A0 E J z u M = some r) ∧ Aside0 (kq ≤ k2) ∧ Aside0 (Kd.R (Kd.int .i64) 3 w' w.heap.size (fun _ => True) v4 R2) ∧ Aside0 (w'.heap[I]? = some (.cells #[(.slice N0 E.length C0), (.slice O0 J.length R0), (.slice a3 z.length S0), (.slice X1 u.length T0), (.slice U0 M.length V0)] 34 (0, 0))) ∧ Aside0 (Below w.heap.size w w'))
   case atStart => exact ⟨(a4l), (0), zR, H', ⟨Nat.le_refl _⟩, ⟨zkR a5x⟩, ⟨zM l⟩, ⟨zB⟩⟩
   clear H'
   try clear c1
   try clear p1
   try clear q1
   try clear hx1
   try clear c2
   try clear p2
   try clear c4
   try clear J3
   try clear d7
   try clear c6
   try clear f7
   try clear g7
   try clear p6
   try clear c8
   try clear i7
   try clear j7
   try clear X4
   try clear a6
   try clear b6
   try clear S6
   try clear p15
   try clear q15
   try clear a6z
   try clear l7
   try clear T6
   try clear B9
   try clear F7
   try clear a1c
   try clear U6
   try clear C9
   try clear V6
   try clear D9
   try clear U3 V3 X3 a4 b4 d4 e4 g4 i4 l4
   try clear C4 D4 E4 F4 G4 I4 J4 L4 M4 N4
   try clear m4 n4 o4 p4 q4 t4 x4 y4 A4 B4
   try clear G7 I7 J7 L7 M7 N7 O7 R7 S7 T7
   try clear U7 V7 X7 a8 b8 d8 e8 f8 g8 i8
   try clear j8 l8 m8 n8 o8 p8 q8 t8 x8 y8
   try clear A8 B8 C8 D8 E8 F8 G8 I8 J8 L8
   try clear i5 j5 l5 m5 n5 o5 p5 q5 t5 x5
   try clear y5 A5 B5 C5 D5 E5 F5 G5 I5 J5
   try clear L5 M5 N5 O5 R5 S5 T5 U5 V5 X5
   try clear I0
   try clear m2
   try clear i2
   try clear L3
   try clear p2
   try clear j2
   try clear M3
   obtain ⟨R2, A0, rfl, HA, N3, B, l, HB⟩ := hrel
   rcases gk with _ | k3
   · exact absurd HA.out (by simp [spec_NestOk.l1])
   have H := HA.out
   clear HA
   simp only [spec_NestOk.l1] at H
   by_cases o7 : A0 < (J.length : Int)
   · as_aux_lemma =>
     rw [if_pos o7] at H
     have a1d := z1 o7
     clear o7
     by_cases O9 : 0 ≤ A0
     rotate_left
     · rw [if_neg O9] at H
       exact absurd H (by simp)
     rw [if_pos O9] at H
     have a5y := z1 O9
     clear O9
     replace H := z6 H
     obtain ⟨a7a, a4p, H⟩ := H
     have A30 := zK a4p
     clear a4p
     by_cases R9 : a7a = true
     · as_aux_lemma =>
       subst R9
       rw [if_pos rfl] at H
       obtain rfl := z5 H
       obtain ⟨a1o, a1p, a1q, a1s, a1t, a1u, a1x, a1y, a1z, a2a⟩ := zc5 l
       have R3 : 0 ≤ (A0 : Int) := z3
       have S3 : A0 < (J.length : Int) := z3
       obtain ⟨a1e, a0b, T2⟩ := Kd.at_int g5.out A0 R3 S3
       cases a0b
       (try replace T2 := zX HB T2)
       replace R3 := eq_true R3
       replace S3 := eq_true S3
       obtain ⟨a7b, a7c, a7d⟩ := Kd.R_slice B.out
       subst a7d
       go_wp2_with (first | ((with_reducible refine gc 39 rfl ?_); refine zF 85 Try.func39 #[.slice a7b R2.length a7c, .int .i64 (rd J A0)] rfl zL ?_; refine (spec_l7Has.calls k3 _ _ R2 (rd J A0) true _ (zC (Kd.R_reads' B.out).2.2) ((Kd.R_reads' B.out).2.1) A30.out).mono ?_; rintro e w' ⟨rfl, ⟨nd, rfl⟩⟩; refine ⟨_, rfl, ?_⟩))
       go_ret
       exact ⟨zE, zB⟩
     replace R9 := Bool.eq_false_iff.mpr R9
     subst R9
     rw [if_neg (show ¬ (false = true) by decide)] at H
     by_cases S9 : R2.length < 17592186044416
     rotate_left
     · rw [if_neg S9] at H
       exact absurd H (by simp)
     rw [if_pos S9] at H
     have LMc34 := zK S9
     clear S9
     obtain ⟨a4q, e6⟩ : ∃ y_ : List Int, y_ = (R2 ++ [rd J A0]) := ⟨_, rfl⟩
     replace H : (spec_NestOk.l1 k3 a4q (wrap64 (A0 + 1)) E J z u M) = some r := by first | (rw [e6]; with_reducible exact H) | (have O3 := (Option.bind_some _ _).symm.trans H; rw [e6]; with_reducible exact O3) | (have O3 := (Option.bind_some _ _).symm.trans H; with_reducible exact O3) | with_reducible exact H | (rw [e6]; exact H) | exact H
     have Ny159 := zK e6
     clear e6
     have H' := zK H
     clear H
     obtain ⟨a2b, a2c, a2d, a2e, a2f, a2g, a2j, a2l, a2m, a2n⟩ := zc5 l
     have R3 : 0 ≤ (A0 : Int) := z3
     have S3 : A0 < (J.length : Int) := z3
     obtain ⟨a1e, a0b, T2⟩ := Kd.at_int g5.out A0 R3 S3
     cases a0b
     (try replace T2 := zX HB T2)
     replace R3 := eq_true R3
     replace S3 := eq_true S3
     obtain ⟨a4s, a4t, a7e⟩ := Kd.R_slice B.out
     subst a7e
     go_wp2_with (first | ((with_reducible refine gc 39 rfl ?_); refine zF 85 Try.func39 #[.slice a4s R2.length a4t, .int .i64 (rd J A0)] rfl zL ?_; refine (spec_l7Has.calls k3 _ _ R2 (rd J A0) false _ (zC (Kd.R_reads' B.out).2.2) ((Kd.R_reads' B.out).2.1) A30.out).mono ?_; rintro e w' ⟨rfl, ⟨nd, rfl⟩⟩; refine ⟨_, rfl, ?_⟩; have F9 : 0 ≤ (A0 : Int) := z3; have G9 : A0 < (J.length : Int) := z3; obtain ⟨a5z, a7f, B6⟩ := Kd.at_int g5.out A0 F9 G9; obtain rfl : a1e = a5z := (by injection a7f); (try replace B6 := zX HB B6); replace F9 := eq_true F9; replace G9 := eq_true G9) | ((with_reducible refine gate_builtin (b := .append) (xs := #[.tmp 86, .tmp 92]) rfl ?_); (try (refine gate_guard (by rfl) ?_; dsimp only)); at_builtin; refine Kd.R_append (Kd.int .i64) (w0 := w) w.heap.size rfl (.tmp 86) (.tmp 92) 22 3 (.int .i64 0) 8 rfl Try.underlying22 info3 rfl (by decide) (by omega) (.slice a4s R2.length a4t) R2 (rd J A0) [.int .i64 (rd J A0)] (fun _ => True) (fun _ => False) rfl rfl ?aP (fun _ hk => hk.elim) ?aF ?aO ?aB ?aS ?aL ?_; (case aP => exact rfl); (case aB => exact zB); (case aF => exact (fun _ _ => trivial)); (case aO => exact (zkR B)); (case aS => exact (zz zB)); (case aL => have := LMc34.out; omega); intro v160 w37 ho hb hg hat; rw [← Ny159.out] at ho; have q0 := zK (blk_grown (zM l) hg (Kd.R_ne B.out l.out (by decide))); have t0 := zK (hb); have x0 := zK (ho); revert q0 t0 x0; clear l HB B; intro l HB a6a; clear ho hb hg hat))
     go_roundg k3
     case measure => have := e3.out; have := g3.out; have := N3.out; omega
     case rel => exact ⟨(a4q), (wrap64 (A0 + 1)), zR, H', ⟨by have := e3.out; have := g3.out; have := N3.out; omega⟩, ⟨zkR a6a⟩, ⟨zM l⟩, ⟨zB⟩⟩
   rw [if_neg o7] at H
   have a1d := z2 o7
   clear o7
   have H' := zK H
   clear H
   obtain ⟨a2o, a2p, a2q, a2s, a2t, a2u, a2x, a2y, a2z, a3a⟩ := zc5 l
   go_wp2
   go_loopg [4, 6] k3 (fun kq v4 v6 w' => ∃ (B0 : List Int) (y : Int), v6 = .int .i64 y ∧ Aside0 (spec_NestOk.l2 kq B0 y E J z u M = some r) ∧ Aside0 (kq ≤ k3) ∧ Aside0 (Kd.R (Kd.int .i64) 3 w' w.heap.size (fun _ => True) v4 B0) ∧ Aside0 (w'.heap[I]? = some (.cells #[(.slice N0 E.length C0), (.slice O0 J.length R0), (.slice a3 z.length S0), (.slice X1 u.length T0), (.slice U0 M.length V0)] 34 (0, 0))) ∧ Aside0 (Below w.heap.size w w'))
   case atStart => exact ⟨(R2), (0), zR, H', ⟨Nat.le_refl _⟩, ⟨zkR B⟩, ⟨zM l⟩, ⟨zB⟩⟩
   clear H'
   try clear c1
   try clear p1
   try clear q1
   try clear hx1
   try clear c2
   try clear p2
   try clear c3
   try clear c4
   try clear J3
   try clear d7
   try clear c6
   try clear f7
   try clear g7
   try clear p6
   try clear c8
   try clear i7
   try clear j7
   try clear X4
   try clear a6
   try clear b6
   try clear S6
   try clear p15
   try clear q15
   try clear a6z
   try clear l7
   try clear T6
   try clear B9
   try clear F7
   try clear a1c
   try clear U6
   try clear C9
   try clear V6
   try clear D9
   try clear o7
   try clear a1d
   try clear O9
   try clear a5y
   try clear R9
   try clear S9
   try clear U3 V3 X3 a4 b4 d4 e4 g4 i4 l4
   try clear C4 D4 E4 F4 G4 I4 J4 L4 M4 N4
   try clear m4 n4 o4 p4 q4 t4 x4 y4 A4 B4
   try clear G7 I7 J7 L7 M7 N7 O7 R7 S7 T7
   try clear U7 V7 X7 a8 b8 d8 e8 f8 g8 i8
   try clear j8 l8 m8 n8 o8 p8 q8 t8 x8 y8
   try clear A8 B8 C8 D8 E8 F8 G8 I8 J8 L8
   try clear a1o a1p a1q a1s a1t a1u a1x a1y a1z a2a
   try clear a2b a2c a2d a2e a2f a2g a2j a2l a2m a2n
   try clear a2o a2p a2q a2s a2t a2u a2x a2y a2z a3a
   try clear i5 j5 l5 m5 n5 o5 p5 q5 t5 x5
   try clear y5 A5 B5 C5 D5 E5 F5 G5 I5 J5
   try clear L5 M5 N5 O5 R5 S5 T5 U5 V5 X5
   try clear I0
   try clear m2
   try clear T2
   try clear B6
   try clear p1
   try clear p15
   try clear i2
   try clear L3
   try clear R3
   try clear F9
   try clear p2
   try clear p6
   try clear q1
   try clear q15
   try clear j2
   try clear M3
   try clear S3
   try clear G9
   obtain ⟨B0, y, rfl, HA, a5, B, l, HB⟩ := hrel
   rcases gk with _ | k4
   · exact absurd HA.out (by simp [spec_NestOk.l2])
   have H := HA.out
   clear HA
   simp only [spec_NestOk.l2] at H
   by_cases X6 : y < (z.length : Int)
   rotate_left
   · as_aux_lemma =>
     rw [if_neg X6] at H
     have a1f := z2 X6
     clear X6
     have H' := zK H
     clear H
     obtain ⟨a3b, a3c, a3d, a3e, a3f, a3g, a3j, a3l, a3m, a3n⟩ := zc5 l
     go_wp2
     go_loopg [8, 9] k4 (fun kq v8 v9 w' => ∃ (I9 : Int) (q : Int), v8 = .int .i64 I9 ∧ v9 = .int .i64 q ∧ Aside0 (spec_NestOk.l3 kq B0 I9 q E J z u M = some r) ∧ Aside0 (kq ≤ k4) ∧ Aside0 (Kd.R (Kd.int .i64) 3 w' w.heap.size (fun _ => True) u4 B0) ∧ Aside0 (w'.heap[I]? = some (.cells #[(.slice N0 E.length C0), (.slice O0 J.length R0), (.slice a3 z.length S0), (.slice X1 u.length T0), (.slice U0 M.length V0)] 34 (0, 0))) ∧ Aside0 (Below w.heap.size w w'))
     case atStart => exact ⟨(0), (0), zR, zR, H', ⟨Nat.le_refl _⟩, ⟨zkR B⟩, ⟨zM l⟩, ⟨zB⟩⟩
     clear H'
     try clear c1
     try clear p1
     try clear q1
     try clear hx1
     try clear p2
     try clear c3
     try clear c4
     try clear c5
     try clear c6
     try clear p6
     try clear c16
     try clear p16
     try clear q16
     try clear a7g
     try clear X6
     try clear a1f
     try clear T9
     try clear M8
     try clear N8
     try clear f6
     try clear J9
     try clear L9
     try clear U9
     try clear V9
     try clear p64
     try clear a3b a3c a3d a3e a3f a3g a3j a3l a3m a3n
     try clear T
     try clear L
     try clear U
     try clear p1
     try clear p16
     try clear n2
     try clear o2
     try clear p2
     try clear q1
     try clear q16
     try clear q2
     try clear t2
     obtain ⟨I9, q, rfl, rfl, HA, HK5, B, l, HB⟩ := hrel
     rcases gk with _ | k5
     · exact absurd HA.out (by simp [spec_NestOk.l3])
     have H := HA.out
     clear HA
     simp only [spec_NestOk.l3] at H
     by_cases O8 : q < (u.length : Int)
     rotate_left
     · rw [if_neg O8] at H
       have a6b := z2 O8
       clear O8
       obtain rfl := z5 H
       obtain ⟨a8f, a8g, a8j, a8l, a8m, a8n, a8o, a8p, a8q, a8s⟩ := zc5 l
       go_wp2
       go_ret
       exact ⟨zE, zB⟩
     rw [if_pos O8] at H
     have a6b := z1 O8
     clear O8
     by_cases c67 : 0 ≤ q
     rotate_left
     · rw [if_neg c67] at H
       exact absurd H (by simp)
     rw [if_pos c67] at H
     have b2t := z1 c67
     clear c67
     replace H := z6 H
     obtain ⟨a7j, a4u, H⟩ := H
     have A68 := zK a4u
     clear a4u
     by_cases c69 : a7j = true
     rotate_left
     · as_aux_lemma =>
       replace c69 := Bool.eq_false_iff.mpr c69
       subst c69
       rw [if_neg (show ¬ (false = true) by decide)] at H
       obtain rfl := z5 H
       obtain ⟨a8t, a8u, a8x, a8y, a8z, a9a, a9b, a9c, a9d, a9e⟩ := zc5 l
       try go_wp2
       have q0 := zK (Kd.R_drew B.out)
       have t0 := zK (zd l.out)
       have x0 := zK (ze HB.out)
       revert q0 t0 x0
       clear B l HB
       intro B l HB
       have b3 : 0 ≤ (q : Int) := z3
       have d3 : q < (u.length : Int) := z3
       obtain ⟨A, F2, G2, I2, J2, L2, M2, N2, O2, p7, X, a0, d0, e0, b0, g0, c0, D1, E1, F1, G1, I1, J1, L1, M1⟩ := at_T79 T3.out q b3 d3
       have D0 := c0
       have J0 := g0
       have E0 := b0
       have L0 := e0
       have M0 := d0
       have F0 := a0
       have G0 := X
       cases p7
       (try replace X := zX HB X)
       (try replace a0 := zX HB a0)
       (try replace d0 := zX HB d0)
       (try replace e0 := zX HB e0)
       (try replace b0 := zX HB b0)
       (try replace g0 := zX HB g0)
       (try replace c0 := zX HB c0)
       have N1 := zK E1
       have j3 := zK D1
       clear E1 D1
       have O1 := zK G1
       have m3 := zK F1
       clear G1 F1
       have R1 := zK J1
       have n3 := zK I1
       clear J1 I1
       have S1 := zK M1
       have o3 := zK L1
       clear M1 L1
       replace b3 := eq_true b3
       replace d3 := eq_true d3
       refine start_ (n := 20) (S := fun w' => w'.cell? ⟨I, 0, none⟩ = some (.slice N0 E.length C0) ∧ w'.cell? ⟨I, 1, none⟩ = some (.slice O0 J.length R0) ∧ w'.cell? ⟨I, 2, none⟩ = some (.slice a3 z.length S0) ∧ w'.cell? ⟨I, 3, none⟩ = some (.slice (some A) u.length T0) ∧ w'.cell? ⟨I, 4, none⟩ = some (.slice U0 M.length V0) ∧ w'.cell? (A.add ((q).toNat * 7)) = some (.slice F2 ((rd_T79 u q).f0).length G2) ∧ w'.cell? ⟨(A.add ((q).toNat * 7)).block, (A.add ((q).toNat * 7)).off + 1, none⟩ = some (.slice I2 ((rd_T79 u q).f1).length J2) ∧ w'.cell? ⟨(A.add ((q).toNat * 7)).block, (A.add ((q).toNat * 7)).off + 2, none⟩ = some (.int .i64 ((rd_T79 u q).f2.f0)) ∧ w'.cell? ⟨(A.add ((q).toNat * 7)).block, (A.add ((q).toNat * 7)).off + 3, none⟩ = some (.int .i64 ((rd_T79 u q).f2.f1)) ∧ w'.cell? ⟨(A.add ((q).toNat * 7)).block, (A.add ((q).toNat * 7)).off + 4, none⟩ = some (.slice L2 ((rd_T79 u q).f2.f2).length M2) ∧ w'.cell? ⟨(A.add ((q).toNat * 7)).block, (A.add ((q).toNat * 7)).off + 5, none⟩ = some (.bool ((rd_T79 u q).f3)) ∧ w'.cell? ⟨(A.add ((q).toNat * 7)).block, (A.add ((q).toNat * 7)).off + 6, none⟩ = some (.slice N2 ((rd_T79 u q).f4).length O2)) (ds := []) (bl 20 0) (by kernel_rfl) rfl (by kernel_rfl) ⟨zy l 0, zy l 1, zy l 2, zy l 3, zy l 4, (zX HB G0:), (zX HB F0:), (zX HB M0:), (zX HB L0:), (zX HB E0:), (zX HB J0:), (zX HB D0:)⟩ (fun hHeld => ?_); refine with_tabW spec_NestOk.tab26 spec_NestOk.bits26 (fun HT_ HW_ => ?_)
       generalize wr.drew = w83 at B l HB N1 O1 R1 S1 X a0 d0 e0 b0 g0 c0 hHeld ⊢
       refine zP 0 167 (bl 20 1) HT_ ?_
       refine zP 2 169 (bl 20 5) HT_ ?_
       refine zP 5 172 (bl 20 37) HT_ ?_
       refine zT 1 168 (bl 20 39) rfl rfl HT_ HW_ hHeld (by rintro w' ⟨s0, s1, s2, s3, s4, s5, s6, s7, s8, s9, B1, C1⟩; go_simp; with_reducible rfl) ?_
       refine zP 3 170 (bl 20 47) HT_ ?_
       refine zT 4 171 (bl 20 63) rfl rfl HT_ HW_ hHeld (by rintro w' ⟨s0, s1, s2, s3, s4, s5, s6, s7, s8, s9, B1, C1⟩; go_simp; with_reducible rfl) ?_
       refine zT 6 173 (bl 20 127) rfl rfl HT_ HW_ hHeld (by rintro w' ⟨s0, s1, s2, s3, s4, s5, s6, s7, s8, s9, B1, C1⟩; go_simp; with_reducible rfl) ?_
       refine one_ (i := 7) (N := some 174) (bl 20 255) rfl rfl (one_of HT_.out (by kernel_rfl)) (by decide) (fun K hK => ?_)
       refine goes_ Try.func41 (by kernel_rfl) rfl #[.agg #[.slice F2 ((rd_T79 u q).f0).length G2, .slice I2 ((rd_T79 u q).f1).length J2, .int .i64 ((rd_T79 u q).f2.f0), .int .i64 ((rd_T79 u q).f2.f1), .slice L2 ((rd_T79 u q).f2.f2).length M2, .bool ((rd_T79 u q).f3), .slice N2 ((rd_T79 u q).f4).length O2], .slice N0 E.length C0] (by rfl) rfl rfl zL ?_
       refine (spec_l11Kernel.calls k5 _ _ ((rd_T79 u q).f0) _ _ ((rd_T79 u q).f1) ((rd_T79 u q).f2.f0) ((rd_T79 u q).f2.f1) _ _ ((rd_T79 u q).f2.f2) ((rd_T79 u q).f3) _ _ ((rd_T79 u q).f4) _ _ E false _ (zS N1) j3.out (zS O1) m3.out (zS R1) n3.out (zS S1) o3.out (zS a2) x9.out A68.out).mono ?_
       rintro e w84 ⟨rfl, hb⟩
       refine ⟨_, rfl, ?_⟩
       have q0 := zK (Kd.R_below (zkR B) hb)
       have t0 := z7 l hb
       have x0 := z8 hb
       revert q0 t0 x0
       clear B l HB
       intro B l HB
       (try clear hb)
       (try clear hb2)
       (try clear hk)
       (try clear hi)
       refine hK.out _ _ ⟨zy l 0, zy l 1, zy l 2, zy l 3, zy l 4, (zX HB G0:), (zX HB F0:), (zX HB M0:), (zX HB L0:), (zX HB E0:), (zX HB J0:), (zX HB D0:)⟩ (fun hHeld => ?_)
       clear hK K
       refine zU 174 ?_
       refine zP 8 175 (bl 20 511) HT_ ?_
       refine zP 9 176 (bl 20 1023) HT_ ?_
       refine zO 10 177 (bl 20 2047) HT_ ?_
       refine zO 11 178 (bl 20 4095) HT_ ?_
       refine zO 12 179 (bl 20 8191) HT_ ?_
       refine zO 13 180 (bl 20 16383) HT_ ?_
       refine zO 14 181 (bl 20 32767) HT_ ?_
       refine zO 15 182 (bl 20 65535) HT_ ?_
       refine zO 16 183 (bl 20 131071) HT_ ?_
       refine zO 17 184 (bl 20 262143) HT_ ?_
       refine zO 18 185 (bl 20 524287) HT_ ?_
       refine zP 19 186 (bl 20 1048575) HT_ ?_
       refine done_ (done_of HT_.out (by kernel_rfl)) ?_
       try go_wp2
       go_ret
       exact ⟨zE, zB⟩
     subst c69
     rw [if_pos rfl] at H
     replace H := z6 H
     obtain ⟨a7l, a4y, H⟩ := H
     have A70 := zK a4y
     clear a4y
     by_cases c71 : a7l = true
     · as_aux_lemma =>
       subst c71
       rw [if_pos rfl] at H
       obtain rfl := z5 H
       obtain ⟨a9f, a9g, a9j, a9l, a9m, a9n, a9o, a9p, a9q, a9s⟩ := zc5 l
       try go_wp2
       have q0 := zK (Kd.R_drew B.out)
       have t0 := zK (zd l.out)
       have x0 := zK (ze HB.out)
       revert q0 t0 x0
       clear B l HB
       intro B l HB
       have b3 : 0 ≤ (q : Int) := z3
       have d3 : q < (u.length : Int) := z3
       obtain ⟨A, F2, G2, I2, J2, L2, M2, N2, O2, p7, X, a0, d0, e0, b0, g0, c0, D1, E1, F1, G1, I1, J1, L1, M1⟩ := at_T79 T3.out q b3 d3
       have D0 := c0
       have J0 := g0
       have E0 := b0
       have L0 := e0
       have M0 := d0
       have F0 := a0
       have G0 := X
       cases p7
       (try replace X := zX HB X)
       (try replace a0 := zX HB a0)
       (try replace d0 := zX HB d0)
       (try replace e0 := zX HB e0)
       (try replace b0 := zX HB b0)
       (try replace g0 := zX HB g0)
       (try replace c0 := zX HB c0)
       have N1 := zK E1
       have j3 := zK D1
       clear E1 D1
       have O1 := zK G1
       have m3 := zK F1
       clear G1 F1
       have R1 := zK J1
       have n3 := zK I1
       clear J1 I1
       have S1 := zK M1
       have o3 := zK L1
       clear M1 L1
       replace b3 := eq_true b3
       replace d3 := eq_true d3
       have b5 : 0 ≤ (q : Int) := z3
       have d5 : q < (u.length : Int) := z3
       obtain ⟨M9, g6, i6, q7, t7, x7, y7, A7, B7, a0c, i0, m0, g1, i1, n0, j1, o0, p3, q3, t3, x3, y3, A3, B3, C3⟩ := at_T79 T3.out q b5 d5
       have x2 := o0
       have y2 := j1
       have A2 := n0
       have B2 := i1
       have C2 := g1
       have D2 := m0
       have E2 := i0
       obtain rfl : A = M9 := (by injection a0c)
       have C6 := i0
       (try replace i0 := zX HB i0)
       have D6 := m0
       (try replace m0 := zX HB m0)
       (try replace g1 := zX HB g1)
       (try replace i1 := zX HB i1)
       have E6 := n0
       (try replace n0 := zX HB n0)
       (try replace j1 := zX HB j1)
       have F6 := o0
       (try replace o0 := zX HB o0)
       have G6 := zK q3
       have a3o := zK p3
       clear q3 p3
       have I6 := zK x3
       have a3p := zK t3
       clear x3 t3
       have J6 := zK A3
       have a3q := zK y3
       clear A3 y3
       have L6 := zK C3
       have a3s := zK B3
       clear C3 B3
       replace b5 := eq_true b5
       replace d5 := eq_true d5
       refine start_ (n := 20) (S := fun w' => w'.cell? ⟨I, 0, none⟩ = some (.slice N0 E.length C0) ∧ w'.cell? ⟨I, 1, none⟩ = some (.slice O0 J.length R0) ∧ w'.cell? ⟨I, 2, none⟩ = some (.slice a3 z.length S0) ∧ w'.cell? ⟨I, 3, none⟩ = some (.slice (some A) u.length T0) ∧ w'.cell? ⟨I, 4, none⟩ = some (.slice U0 M.length V0) ∧ w'.cell? (A.add ((q).toNat * 7)) = some (.slice F2 ((rd_T79 u q).f0).length G2) ∧ w'.cell? ⟨(A.add ((q).toNat * 7)).block, (A.add ((q).toNat * 7)).off + 1, none⟩ = some (.slice I2 ((rd_T79 u q).f1).length J2) ∧ w'.cell? ⟨(A.add ((q).toNat * 7)).block, (A.add ((q).toNat * 7)).off + 2, none⟩ = some (.int .i64 ((rd_T79 u q).f2.f0)) ∧ w'.cell? ⟨(A.add ((q).toNat * 7)).block, (A.add ((q).toNat * 7)).off + 3, none⟩ = some (.int .i64 ((rd_T79 u q).f2.f1)) ∧ w'.cell? ⟨(A.add ((q).toNat * 7)).block, (A.add ((q).toNat * 7)).off + 4, none⟩ = some (.slice L2 ((rd_T79 u q).f2.f2).length M2) ∧ w'.cell? ⟨(A.add ((q).toNat * 7)).block, (A.add ((q).toNat * 7)).off + 5, none⟩ = some (.bool ((rd_T79 u q).f3)) ∧ w'.cell? ⟨(A.add ((q).toNat * 7)).block, (A.add ((q).toNat * 7)).off + 6, none⟩ = some (.slice N2 ((rd_T79 u q).f4).length O2) ∧ w'.cell? (A.add ((q).toNat * 7)) = some (.slice g6 ((rd_T79 u q).f0).length i6) ∧ w'.cell? ⟨(A.add ((q).toNat * 7)).block, (A.add ((q).toNat * 7)).off + 1, none⟩ = some (.slice q7 ((rd_T79 u q).f1).length t7) ∧ w'.cell? ⟨(A.add ((q).toNat * 7)).block, (A.add ((q).toNat * 7)).off + 2, none⟩ = some (.int .i64 ((rd_T79 u q).f2.f0)) ∧ w'.cell? ⟨(A.add ((q).toNat * 7)).block, (A.add ((q).toNat * 7)).off + 3, none⟩ = some (.int .i64 ((rd_T79 u q).f2.f1)) ∧ w'.cell? ⟨(A.add ((q).toNat * 7)).block, (A.add ((q).toNat * 7)).off + 4, none⟩ = some (.slice x7 ((rd_T79 u q).f2.f2).length y7) ∧ w'.cell? ⟨(A.add ((q).toNat * 7)).block, (A.add ((q).toNat * 7)).off + 5, none⟩ = some (.bool ((rd_T79 u q).f3)) ∧ w'.cell? ⟨(A.add ((q).toNat * 7)).block, (A.add ((q).toNat * 7)).off + 6, none⟩ = some (.slice A7 ((rd_T79 u q).f4).length B7)) (ds := []) (bl 20 0) (by kernel_rfl) rfl (by kernel_rfl) ⟨zy l 0, zy l 1, zy l 2, zy l 3, zy l 4, (zX HB G0:), (zX HB F0:), (zX HB M0:), (zX HB L0:), (zX HB E0:), (zX HB J0:), (zX HB D0:), (zX HB E2:), (zX HB D2:), (zX HB C2:), (zX HB B2:), (zX HB A2:), (zX HB y2:), (zX HB x2:)⟩ (fun hHeld => ?_); refine with_tabW spec_NestOk.tab26 spec_NestOk.bits26 (fun HT_ HW_ => ?_)
       generalize wr.drew = w73 at B l HB N1 O1 R1 S1 G6 I6 J6 L6 X a0 d0 e0 b0 g0 c0 i0 m0 g1 i1 n0 j1 o0 hHeld ⊢
       refine zP 0 167 (bl 20 1) HT_ ?_
       refine zP 2 169 (bl 20 5) HT_ ?_
       refine zP 5 172 (bl 20 37) HT_ ?_
       refine zT 1 168 (bl 20 39) rfl rfl HT_ HW_ hHeld (by rintro w' ⟨s0, s1, s2, s3, s4, s5, s6, s7, s8, s9, B1, C1, j6, l6, m6, n6, o6, q6, t6⟩; go_simp; with_reducible rfl) ?_
       refine zP 3 170 (bl 20 47) HT_ ?_
       refine zT 4 171 (bl 20 63) rfl rfl HT_ HW_ hHeld (by rintro w' ⟨s0, s1, s2, s3, s4, s5, s6, s7, s8, s9, B1, C1, j6, l6, m6, n6, o6, q6, t6⟩; go_simp; with_reducible rfl) ?_
       refine zT 6 173 (bl 20 127) rfl rfl HT_ HW_ hHeld (by rintro w' ⟨s0, s1, s2, s3, s4, s5, s6, s7, s8, s9, B1, C1, j6, l6, m6, n6, o6, q6, t6⟩; go_simp; with_reducible rfl) ?_
       refine one_ (i := 7) (N := some 174) (bl 20 255) rfl rfl (one_of HT_.out (by kernel_rfl)) (by decide) (fun K hK => ?_)
       refine goes_ Try.func41 (by kernel_rfl) rfl #[.agg #[.slice F2 ((rd_T79 u q).f0).length G2, .slice I2 ((rd_T79 u q).f1).length J2, .int .i64 ((rd_T79 u q).f2.f0), .int .i64 ((rd_T79 u q).f2.f1), .slice L2 ((rd_T79 u q).f2.f2).length M2, .bool ((rd_T79 u q).f3), .slice N2 ((rd_T79 u q).f4).length O2], .slice N0 E.length C0] (by rfl) rfl rfl zL ?_
       refine (spec_l11Kernel.calls k5 _ _ ((rd_T79 u q).f0) _ _ ((rd_T79 u q).f1) ((rd_T79 u q).f2.f0) ((rd_T79 u q).f2.f1) _ _ ((rd_T79 u q).f2.f2) ((rd_T79 u q).f3) _ _ ((rd_T79 u q).f4) _ _ E true _ (zS N1) j3.out (zS O1) m3.out (zS R1) n3.out (zS S1) o3.out (zS a2) x9.out A68.out).mono ?_
       rintro e w74 ⟨rfl, hb⟩
       refine ⟨_, rfl, ?_⟩
       have q0 := zK (Kd.R_below (zkR B) hb)
       have t0 := z7 l hb
       have x0 := z8 hb
       revert q0 t0 x0
       clear B l HB
       intro B l HB
       (try clear hb)
       (try clear hb2)
       (try clear hk)
       (try clear hi)
       obtain ⟨a7m, a7n, a4z⟩ := Kd.R_slice B.out
       (first | subst a4z | (injection a4z with f1_ f2_ f3_; have f4_ := f1_.symm; have f5_ := f3_.symm; clear f1_ f2_ f3_; subst f4_; subst f5_))
       refine hK.out _ _ ⟨zy l 0, zy l 1, zy l 2, zy l 3, zy l 4, (zX HB G0:), (zX HB F0:), (zX HB M0:), (zX HB L0:), (zX HB E0:), (zX HB J0:), (zX HB D0:), (zX HB E2:), (zX HB D2:), (zX HB C2:), (zX HB B2:), (zX HB A2:), (zX HB y2:), (zX HB x2:)⟩ (fun hHeld => ?_)
       clear hK K
       refine zU 174 ?_
       refine zP 8 175 (bl 20 511) HT_ ?_
       refine zP 9 176 (bl 20 1023) HT_ ?_
       refine zP 10 177 (bl 20 2047) HT_ ?_
       refine zP 11 178 (bl 20 4095) HT_ ?_
       refine zP 13 180 (bl 20 12287) HT_ ?_
       refine zT 12 179 (bl 20 16383) rfl rfl HT_ HW_ hHeld (by rintro w' ⟨s0, s1, s2, s3, s4, s5, s6, s7, s8, s9, B1, C1, j6, l6, m6, n6, o6, q6, t6⟩; go_simp; with_reducible rfl) ?_
       refine zP 14 181 (bl 20 32767) HT_ ?_
       refine zP 15 182 (bl 20 65535) HT_ ?_
       refine zP 16 183 (bl 20 131071) HT_ ?_
       refine zT 17 184 (bl 20 262143) rfl rfl HT_ HW_ hHeld (by rintro w' ⟨s0, s1, s2, s3, s4, s5, s6, s7, s8, s9, B1, C1, j6, l6, m6, n6, o6, q6, t6⟩; go_simp; with_reducible rfl) ?_
       refine one_ (i := 18) (N := some 185) (bl 20 524287) rfl rfl (one_of HT_.out (by kernel_rfl)) (by decide) (fun K hK => ?_)
       refine goes_ Try.func39 (by kernel_rfl) rfl #[.slice a7m B0.length a7n, .int .i64 ((rd_T79 u q).f2.f0)] (by rfl) rfl rfl zL ?_
       refine (spec_l7Has.calls k5 _ _ B0 ((rd_T79 u q).f2.f0) true _ (zC (Kd.R_reads' B.out).2.2) ((Kd.R_reads' B.out).2.1) A70.out).mono ?_
       rintro e w' ⟨rfl, ⟨nd, rfl⟩⟩
       refine ⟨_, rfl, ?_⟩
       refine hK.out _ _ ⟨zy l 0, zy l 1, zy l 2, zy l 3, zy l 4, (zX HB G0:), (zX HB F0:), (zX HB M0:), (zX HB L0:), (zX HB E0:), (zX HB J0:), (zX HB D0:), (zX HB E2:), (zX HB D2:), (zX HB C2:), (zX HB B2:), (zX HB A2:), (zX HB y2:), (zX HB x2:)⟩ (fun hHeld => ?_)
       clear hK K
       refine zU 185 ?_
       refine zP 19 186 (bl 20 1048575) HT_ ?_
       refine done_ (done_of HT_.out (by kernel_rfl)) ?_
       try go_wp2
       go_ret
       exact ⟨zE, zB⟩
     replace c71 := Bool.eq_false_iff.mpr c71
     subst c71
     rw [if_neg (show ¬ (false = true) by decide)] at H
     replace H := z6 H
     obtain ⟨a5a, a5b, H⟩ := H
     have A76 := zK a5b
     clear a5b
     have H' := zK H
     clear H
     obtain ⟨a9t, a9u, a9x, a9y, a9z, b0a, b0b, b0c, b0d, b0e⟩ := zc5 l
     try go_wp2
     have q0 := zK (Kd.R_drew B.out)
     have t0 := zK (zd l.out)
     have x0 := zK (ze HB.out)
     revert q0 t0 x0
     clear B l HB
     intro B l HB
     have b3 : 0 ≤ (q : Int) := z3
     have d3 : q < (u.length : Int) := z3
     obtain ⟨A, F2, G2, I2, J2, L2, M2, N2, O2, p7, X, a0, d0, e0, b0, g0, c0, D1, E1, F1, G1, I1, J1, L1, M1⟩ := at_T79 T3.out q b3 d3
     have D0 := c0
     have J0 := g0
     have E0 := b0
     have L0 := e0
     have M0 := d0
     have F0 := a0
     have G0 := X
     cases p7
     (try replace X := zX HB X)
     (try replace a0 := zX HB a0)
     (try replace d0 := zX HB d0)
     (try replace e0 := zX HB e0)
     (try replace b0 := zX HB b0)
     (try replace g0 := zX HB g0)
     (try replace c0 := zX HB c0)
     have N1 := zK E1
     have j3 := zK D1
     clear E1 D1
     have O1 := zK G1
     have m3 := zK F1
     clear G1 F1
     have R1 := zK J1
     have n3 := zK I1
     clear J1 I1
     have S1 := zK M1
     have o3 := zK L1
     clear M1 L1
     replace b3 := eq_true b3
     replace d3 := eq_true d3
     have b5 : 0 ≤ (q : Int) := z3
     have d5 : q < (u.length : Int) := z3
     obtain ⟨M9, g6, i6, q7, t7, x7, y7, A7, B7, a0c, i0, m0, g1, i1, n0, j1, o0, p3, q3, t3, x3, y3, A3, B3, C3⟩ := at_T79 T3.out q b5 d5
     have x2 := o0
     have y2 := j1
     have A2 := n0
     have B2 := i1
     have C2 := g1
     have D2 := m0
     have E2 := i0
     obtain rfl : A = M9 := (by injection a0c)
     have C6 := i0
     (try replace i0 := zX HB i0)
     have D6 := m0
     (try replace m0 := zX HB m0)
     (try replace g1 := zX HB g1)
     (try replace i1 := zX HB i1)
     have E6 := n0
     (try replace n0 := zX HB n0)
     (try replace j1 := zX HB j1)
     have F6 := o0
     (try replace o0 := zX HB o0)
     have G6 := zK q3
     have a3o := zK p3
     clear q3 p3
     have I6 := zK x3
     have a3p := zK t3
     clear x3 t3
     have J6 := zK A3
     have a3q := zK y3
     clear A3 y3
     have L6 := zK C3
     have a3s := zK B3
     clear C3 B3
     replace b5 := eq_true b5
     replace d5 := eq_true d5
     refine start_ (n := 20) (S := fun w' => w'.cell? ⟨I, 0, none⟩ = some (.slice N0 E.length C0) ∧ w'.cell? ⟨I, 1, none⟩ = some (.slice O0 J.length R0) ∧ w'.cell? ⟨I, 2, none⟩ = some (.slice a3 z.length S0) ∧ w'.cell? ⟨I, 3, none⟩ = some (.slice (some A) u.length T0) ∧ w'.cell? ⟨I, 4, none⟩ = some (.slice U0 M.length V0) ∧ w'.cell? (A.add ((q).toNat * 7)) = some (.slice F2 ((rd_T79 u q).f0).length G2) ∧ w'.cell? ⟨(A.add ((q).toNat * 7)).block, (A.add ((q).toNat * 7)).off + 1, none⟩ = some (.slice I2 ((rd_T79 u q).f1).length J2) ∧ w'.cell? ⟨(A.add ((q).toNat * 7)).block, (A.add ((q).toNat * 7)).off + 2, none⟩ = some (.int .i64 ((rd_T79 u q).f2.f0)) ∧ w'.cell? ⟨(A.add ((q).toNat * 7)).block, (A.add ((q).toNat * 7)).off + 3, none⟩ = some (.int .i64 ((rd_T79 u q).f2.f1)) ∧ w'.cell? ⟨(A.add ((q).toNat * 7)).block, (A.add ((q).toNat * 7)).off + 4, none⟩ = some (.slice L2 ((rd_T79 u q).f2.f2).length M2) ∧ w'.cell? ⟨(A.add ((q).toNat * 7)).block, (A.add ((q).toNat * 7)).off + 5, none⟩ = some (.bool ((rd_T79 u q).f3)) ∧ w'.cell? ⟨(A.add ((q).toNat * 7)).block, (A.add ((q).toNat * 7)).off + 6, none⟩ = some (.slice N2 ((rd_T79 u q).f4).length O2) ∧ w'.cell? (A.add ((q).toNat * 7)) = some (.slice g6 ((rd_T79 u q).f0).length i6) ∧ w'.cell? ⟨(A.add ((q).toNat * 7)).block, (A.add ((q).toNat * 7)).off + 1, none⟩ = some (.slice q7 ((rd_T79 u q).f1).length t7) ∧ w'.cell? ⟨(A.add ((q).toNat * 7)).block, (A.add ((q).toNat * 7)).off + 2, none⟩ = some (.int .i64 ((rd_T79 u q).f2.f0)) ∧ w'.cell? ⟨(A.add ((q).toNat * 7)).block, (A.add ((q).toNat * 7)).off + 3, none⟩ = some (.int .i64 ((rd_T79 u q).f2.f1)) ∧ w'.cell? ⟨(A.add ((q).toNat * 7)).block, (A.add ((q).toNat * 7)).off + 4, none⟩ = some (.slice x7 ((rd_T79 u q).f2.f2).length y7) ∧ w'.cell? ⟨(A.add ((q).toNat * 7)).block, (A.add ((q).toNat * 7)).off + 5, none⟩ = some (.bool ((rd_T79 u q).f3)) ∧ w'.cell? ⟨(A.add ((q).toNat * 7)).block, (A.add ((q).toNat * 7)).off + 6, none⟩ = some (.slice A7 ((rd_T79 u q).f4).length B7)) (ds := []) (bl 20 0) (by kernel_rfl) rfl (by kernel_rfl) ⟨zy l 0, zy l 1, zy l 2, zy l 3, zy l 4, (zX HB G0:), (zX HB F0:), (zX HB M0:), (zX HB L0:), (zX HB E0:), (zX HB J0:), (zX HB D0:), (zX HB E2:), (zX HB D2:), (zX HB C2:), (zX HB B2:), (zX HB A2:), (zX HB y2:), (zX HB x2:)⟩ (fun hHeld => ?_); refine with_tabW spec_NestOk.tab26 spec_NestOk.bits26 (fun HT_ HW_ => ?_)
     generalize wr.drew = w78 at B l HB N1 O1 R1 S1 G6 I6 J6 L6 X a0 d0 e0 b0 g0 c0 i0 m0 g1 i1 n0 j1 o0 hHeld ⊢
     refine zP 0 167 (bl 20 1) HT_ ?_
     refine zP 2 169 (bl 20 5) HT_ ?_
     refine zP 5 172 (bl 20 37) HT_ ?_
     refine zT 1 168 (bl 20 39) rfl rfl HT_ HW_ hHeld (by rintro w' ⟨s0, s1, s2, s3, s4, s5, s6, s7, s8, s9, B1, C1, j6, l6, m6, n6, o6, q6, t6⟩; go_simp; with_reducible rfl) ?_
     refine zP 3 170 (bl 20 47) HT_ ?_
     refine zT 4 171 (bl 20 63) rfl rfl HT_ HW_ hHeld (by rintro w' ⟨s0, s1, s2, s3, s4, s5, s6, s7, s8, s9, B1, C1, j6, l6, m6, n6, o6, q6, t6⟩; go_simp; with_reducible rfl) ?_
     refine zT 6 173 (bl 20 127) rfl rfl HT_ HW_ hHeld (by rintro w' ⟨s0, s1, s2, s3, s4, s5, s6, s7, s8, s9, B1, C1, j6, l6, m6, n6, o6, q6, t6⟩; go_simp; with_reducible rfl) ?_
     refine one_ (i := 7) (N := some 174) (bl 20 255) rfl rfl (one_of HT_.out (by kernel_rfl)) (by decide) (fun K hK => ?_)
     refine goes_ Try.func41 (by kernel_rfl) rfl #[.agg #[.slice F2 ((rd_T79 u q).f0).length G2, .slice I2 ((rd_T79 u q).f1).length J2, .int .i64 ((rd_T79 u q).f2.f0), .int .i64 ((rd_T79 u q).f2.f1), .slice L2 ((rd_T79 u q).f2.f2).length M2, .bool ((rd_T79 u q).f3), .slice N2 ((rd_T79 u q).f4).length O2], .slice N0 E.length C0] (by rfl) rfl rfl zL ?_
     refine (spec_l11Kernel.calls k5 _ _ ((rd_T79 u q).f0) _ _ ((rd_T79 u q).f1) ((rd_T79 u q).f2.f0) ((rd_T79 u q).f2.f1) _ _ ((rd_T79 u q).f2.f2) ((rd_T79 u q).f3) _ _ ((rd_T79 u q).f4) _ _ E true _ (zS N1) j3.out (zS O1) m3.out (zS R1) n3.out (zS S1) o3.out (zS a2) x9.out A68.out).mono ?_
     rintro e w79 ⟨rfl, hb⟩
     refine ⟨_, rfl, ?_⟩
     have q0 := zK (Kd.R_below (zkR B) hb)
     have t0 := z7 l hb
     have x0 := z8 hb
     revert q0 t0 x0
     clear B l HB
     intro B l HB
     (try clear hb)
     (try clear hb2)
     (try clear hk)
     (try clear hi)
     obtain ⟨a7o, a7p, a5c⟩ := Kd.R_slice B.out
     (first | subst a5c | (injection a5c with f1_ f2_ f3_; have f4_ := f1_.symm; have f5_ := f3_.symm; clear f1_ f2_ f3_; subst f4_; subst f5_))
     refine hK.out _ _ ⟨zy l 0, zy l 1, zy l 2, zy l 3, zy l 4, (zX HB G0:), (zX HB F0:), (zX HB M0:), (zX HB L0:), (zX HB E0:), (zX HB J0:), (zX HB D0:), (zX HB E2:), (zX HB D2:), (zX HB C2:), (zX HB B2:), (zX HB A2:), (zX HB y2:), (zX HB x2:)⟩ (fun hHeld => ?_)
     clear hK K
     refine zU 174 ?_
     refine zP 8 175 (bl 20 511) HT_ ?_
     refine zP 9 176 (bl 20 1023) HT_ ?_
     refine zP 10 177 (bl 20 2047) HT_ ?_
     refine zP 11 178 (bl 20 4095) HT_ ?_
     refine zP 13 180 (bl 20 12287) HT_ ?_
     refine zT 12 179 (bl 20 16383) rfl rfl HT_ HW_ hHeld (by rintro w' ⟨s0, s1, s2, s3, s4, s5, s6, s7, s8, s9, B1, C1, j6, l6, m6, n6, o6, q6, t6⟩; go_simp; with_reducible rfl) ?_
     refine zP 14 181 (bl 20 32767) HT_ ?_
     refine zP 15 182 (bl 20 65535) HT_ ?_
     refine zP 16 183 (bl 20 131071) HT_ ?_
     refine zT 17 184 (bl 20 262143) rfl rfl HT_ HW_ hHeld (by rintro w' ⟨s0, s1, s2, s3, s4, s5, s6, s7, s8, s9, B1, C1, j6, l6, m6, n6, o6, q6, t6⟩; go_simp; with_reducible rfl) ?_
     refine one_ (i := 18) (N := some 185) (bl 20 524287) rfl rfl (one_of HT_.out (by kernel_rfl)) (by decide) (fun K hK => ?_)
     refine goes_ Try.func39 (by kernel_rfl) rfl #[.slice a7o B0.length a7p, .int .i64 ((rd_T79 u q).f2.f0)] (by rfl) rfl rfl zL ?_
     refine (spec_l7Has.calls k5 _ _ B0 ((rd_T79 u q).f2.f0) false _ (zC (Kd.R_reads' B.out).2.2) ((Kd.R_reads' B.out).2.1) A70.out).mono ?_
     rintro e w' ⟨rfl, ⟨nd, rfl⟩⟩
     refine ⟨_, rfl, ?_⟩
     refine hK.out _ _ ⟨zy l 0, zy l 1, zy l 2, zy l 3, zy l 4, (zX HB G0:), (zX HB F0:), (zX HB M0:), (zX HB L0:), (zX HB E0:), (zX HB J0:), (zX HB D0:), (zX HB E2:), (zX HB D2:), (zX HB C2:), (zX HB B2:), (zX HB A2:), (zX HB y2:), (zX HB x2:)⟩ (fun hHeld => ?_)
     clear hK K
     refine zU 185 ?_
     refine zP 19 186 (bl 20 1048575) HT_ ?_
     refine done_ (done_of HT_.out (by kernel_rfl)) ?_
     obtain ⟨b0f, b0g, b0j, b0l, b0m, b0n, b0o, b0p, b0q, b0s⟩ := zc5 l
     have a0d : 0 ≤ (q : Int) := z3
     have a0e : q < (u.length : Int) := z3
     obtain ⟨a6c, b1y, b1z, b2a, b2b, b2c, b2d, b2e, b2f, a7q, O4, R4, R8, S8, S4, T8, T4, U8, V8, X8, a9, b9, c9, d9, e9⟩ := at_T79 T3.out q a0d a0e
     obtain rfl : A = a6c := (by injection a7q)
     have a3t := O4
     (try replace O4 := zX HB O4)
     have a3u := R4
     (try replace R4 := zX HB R4)
     (try replace R8 := zX HB R8)
     (try replace S8 := zX HB S8)
     have a3x := S4
     (try replace S4 := zX HB S4)
     (try replace T8 := zX HB T8)
     have a3y := T4
     (try replace T4 := zX HB T4)
     have a3z := zK V8
     have a4a := zK U8
     clear V8 U8
     have b0t := zK a9
     have b0u := zK X8
     clear a9 X8
     have b0x := zK c9
     have b0y := zK b9
     clear c9 b9
     have b0z := zK e9
     have b1a := zK d9
     clear e9 d9
     replace a0d := eq_true a0d
     replace a0e := eq_true a0e
     have ea_ := z5 (by first | exact i0.symm.trans O4 | exact C6.symm.trans a3t)
     injection ea_ with ea_ en_ ec_
     subst ea_
     subst ec_
     clear en_
     (try (have ea_ := z5 (by first | exact C6.symm.trans G0 | exact i0.symm.trans X); injection ea_ with ea_ en_ ec_; subst ea_; subst ec_; clear en_))
     have ea_ := z5 (by first | exact m0.symm.trans R4 | exact D6.symm.trans a3u)
     injection ea_ with ea_ en_ ec_
     subst ea_
     subst ec_
     clear en_
     (try (have ea_ := z5 (by first | exact D6.symm.trans F0 | exact m0.symm.trans a0); injection ea_ with ea_ en_ ec_; subst ea_; subst ec_; clear en_))
     have ea_ := z5 (by first | exact n0.symm.trans S4 | exact E6.symm.trans a3x)
     injection ea_ with ea_ en_ ec_
     subst ea_
     subst ec_
     clear en_
     (try (have ea_ := z5 (by first | exact E6.symm.trans E0 | exact n0.symm.trans b0); injection ea_ with ea_ en_ ec_; subst ea_; subst ec_; clear en_))
     have ea_ := z5 (by first | exact o0.symm.trans T4 | exact F6.symm.trans a3y)
     injection ea_ with ea_ en_ ec_
     subst ea_
     subst ec_
     clear en_
     (try (have ea_ := z5 (by first | exact F6.symm.trans D0 | exact o0.symm.trans c0); injection ea_ with ea_ en_ ec_; subst ea_; subst ec_; clear en_))
     try go_wp2_with (first | ((with_reducible refine gc 42 rfl ?_); refine zF 194 Try.func42 #[.slice g6 ((rd_T79 u q).f0).length i6] rfl zL ?_; refine (spec_l11Product.calls k5 _ _ ((rd_T79 u q).f0) a5a _ (zS a3z) a4a.out A76.out).mono ?_; rintro e w' ⟨rfl, ⟨nd, rfl⟩⟩; refine ⟨_, rfl, ?_⟩))
     go_roundg k5
     case measure => have := e3.out; have := g3.out; have := N3.out; have := a5.out; have := HK5.out; omega
     case rel => exact ⟨(wrap64 (I9 + a5a)), (wrap64 (q + 1)), zR, zR, H', ⟨by have := e3.out; have := g3.out; have := N3.out; have := a5.out; have := HK5.out; omega⟩, ⟨zkR B⟩, ⟨zM l⟩, ⟨zB⟩⟩
   rw [if_pos X6] at H
   have a1f := z1 X6
   clear X6
   by_cases T9 : 0 ≤ y
   rotate_left
   · rw [if_neg T9] at H
     exact absurd H (by simp)
   rw [if_pos T9] at H
   have b2u := z1 T9
   clear T9
   have a0f := zK H
   clear H
   obtain ⟨b1b, b1c, b1d, b1e, b1f, b1g, b1j, b1l, b1m, b1n⟩ := zc5 l
   have a0g : 0 ≤ (y : Int) := z3
   have a0j : y < (z.length : Int) := z3
   obtain ⟨O, b2g, b2j, a7s, f9, D3, g9, i9⟩ := at_T71 I3.out y a0g a0j
   cases a7s
   (try replace f9 := zX HB f9)
   (try replace D3 := zX HB D3)
   have b1o := zK i9
   have b1p := zK g9
   clear i9 g9
   replace a0g := eq_true a0g
   replace a0j := eq_true a0j
   go_upto_region 19 with (fail)
   go_cut [155] (fun v155 wc => ∃ (kq : Nat) (U4 : Bool), v155 = .bool U4 ∧ Aside0 (spec_NestOk.j4 kq B0 y ((rd_T71 z y).f0) U4 E J z u M = some r) ∧ Aside0 (kq ≤ k4) ∧ Aside0 (Kd.R (Kd.int .i64) 3 wc w.heap.size (fun _ => True) u4 B0) ∧ Aside0 (wc.heap[I]? = some (.cells #[(.slice N0 E.length C0), (.slice O0 J.length R0), (.slice (some O) z.length S0), (.slice X1 u.length T0), (.slice U0 M.length V0)] 34 (0, 0))) ∧ Aside0 (Below w.heap.size w wc))
   case first =>
    have H := a0f.out
    clear a0f
    by_cases j9 : ((rd_T71 z y).f0) < 0
    · as_aux_lemma =>
      rw [if_pos j9] at H
      have x6 := z1 j9
      clear j9
      (first | rw [x6] | (simp only [i64_w, i32_w]; rw [x6]) | skip)
      have H' := zK H
      clear H
      try go_wp2
      have q0 := zK (Kd.R_drew B.out)
      have t0 := zK (zd l.out)
      have x0 := zK (ze HB.out)
      revert q0 t0 x0
      clear B l HB
      intro B l HB
      refine start_ (n := 49) (S := fun w' => True) (ds := []) (bl 49 0) (by kernel_rfl) rfl (by kernel_rfl) trivial (fun hHeld => ?_); refine with_tabW spec_NestOk.tab19 spec_NestOk.bits19 (fun HT_ HW_ => ?_)
      generalize wr.drew = w44 at B l HB hHeld ⊢
      refine zP 0 107 (bl 49 1) HT_ ?_
      refine zP 1 108 (bl 49 3) HT_ ?_
      refine zP 2 109 (bl 49 7) HT_ ?_
      refine zO 3 110 (bl 49 15) HT_ ?_
      refine zO 4 111 (bl 49 31) HT_ ?_
      refine zO 5 112 (bl 49 63) HT_ ?_
      refine zO 6 113 (bl 49 127) HT_ ?_
      refine zO 7 114 (bl 49 255) HT_ ?_
      refine zP 8 115 (bl 49 511) HT_ ?_
      refine zP 9 116 (bl 49 1023) HT_ ?_
      refine zO 10 117 (bl 49 2047) HT_ ?_
      refine zO 11 118 (bl 49 4095) HT_ ?_
      refine zO 12 119 (bl 49 8191) HT_ ?_
      refine zP 13 120 (bl 49 16383) HT_ ?_
      refine zP 14 121 (bl 49 32767) HT_ ?_
      refine zO 15 122 (bl 49 65535) HT_ ?_
      refine zO 16 123 (bl 49 131071) HT_ ?_
      refine zO 17 124 (bl 49 262143) HT_ ?_
      refine zO 18 125 (bl 49 524287) HT_ ?_
      refine zO 19 126 (bl 49 1048575) HT_ ?_
      refine zO 20 127 (bl 49 2097151) HT_ ?_
      refine zO 21 128 (bl 49 4194303) HT_ ?_
      refine zO 22 129 (bl 49 8388607) HT_ ?_
      refine zO 23 130 (bl 49 16777215) HT_ ?_
      refine zO 24 131 (bl 49 33554431) HT_ ?_
      refine zO 25 132 (bl 49 67108863) HT_ ?_
      refine zO 26 133 (bl 49 134217727) HT_ ?_
      refine zO 27 134 (bl 49 268435455) HT_ ?_
      refine zP 28 135 (bl 49 536870911) HT_ ?_
      refine zP 29 136 (bl 49 1073741823) HT_ ?_
      refine zO 30 137 (bl 49 2147483647) HT_ ?_
      refine zO 31 138 (bl 49 4294967295) HT_ ?_
      refine zO 32 139 (bl 49 8589934591) HT_ ?_
      refine zO 33 140 (bl 49 17179869183) HT_ ?_
      refine zO 34 141 (bl 49 34359738367) HT_ ?_
      refine zO 35 142 (bl 49 68719476735) HT_ ?_
      refine zO 36 143 (bl 49 137438953471) HT_ ?_
      refine zO 37 144 (bl 49 274877906943) HT_ ?_
      refine zO 38 145 (bl 49 549755813887) HT_ ?_
      refine zO 39 146 (bl 49 1099511627775) HT_ ?_
      refine zO 40 147 (bl 49 2199023255551) HT_ ?_
      refine zO 41 148 (bl 49 4398046511103) HT_ ?_
      refine zO 42 149 (bl 49 8796093022207) HT_ ?_
      refine zO 43 150 (bl 49 17592186044415) HT_ ?_
      refine zO 44 151 (bl 49 35184372088831) HT_ ?_
      refine zO 45 152 (bl 49 70368744177663) HT_ ?_
      refine zO 46 153 (bl 49 140737488355327) HT_ ?_
      refine zO 47 154 (bl 49 281474976710655) HT_ ?_
      refine zP 48 155 (bl 49 562949953421311) HT_ ?_
      refine done_ (done_of HT_.out (by kernel_rfl)) ?_
      try go_wp2
      go_meet
      case rel => exact ⟨_, (true), zR, H', ⟨by have := e3.out; have := g3.out; have := N3.out; have := a5.out; first | omega | exact Nat.le_refl _⟩, ⟨zkR B⟩, ⟨zM l⟩, ⟨zB⟩⟩
    rw [if_neg j9] at H
    have x6 := z2 j9
    clear j9
    (first | rw [x6] | (simp only [i64_w, i32_w]; rw [x6]) | skip)
    by_cases l9 : ((rd_T71 z y).f0) ≥ (E.length : Int)
    · as_aux_lemma =>
      rw [if_pos l9] at H
      have a6d := z1 l9
      clear l9
      have H' := zK H
      clear H
      try go_wp2
      have q0 := zK (Kd.R_drew B.out)
      have t0 := zK (zd l.out)
      have x0 := zK (ze HB.out)
      revert q0 t0 x0
      clear B l HB
      intro B l HB
      refine start_ (n := 49) (S := fun w' => w'.cell? ⟨I, 0, none⟩ = some (.slice N0 E.length C0) ∧ w'.cell? ⟨I, 1, none⟩ = some (.slice O0 J.length R0) ∧ w'.cell? ⟨I, 2, none⟩ = some (.slice (some O) z.length S0) ∧ w'.cell? ⟨I, 3, none⟩ = some (.slice X1 u.length T0) ∧ w'.cell? ⟨I, 4, none⟩ = some (.slice U0 M.length V0)) (ds := []) (bl 49 0) (by kernel_rfl) rfl (by kernel_rfl) ⟨zy l 0, zy l 1, zy l 2, zy l 3, zy l 4⟩ (fun hHeld => ?_); refine with_tabW spec_NestOk.tab19 spec_NestOk.bits19 (fun HT_ HW_ => ?_)
      generalize wr.drew = w46 at B l HB hHeld ⊢
      refine zP 0 107 (bl 49 1) HT_ ?_
      refine zP 1 108 (bl 49 3) HT_ ?_
      refine zP 2 109 (bl 49 7) HT_ ?_
      refine zP 3 110 (bl 49 15) HT_ ?_
      refine zP 4 111 (bl 49 31) HT_ ?_
      refine zT 5 112 (bl 49 63) rfl rfl HT_ HW_ hHeld (by rintro w' ⟨s0, s1, s2, s3, s4⟩; go_simp; with_reducible rfl) ?_
      refine zP 6 113 (bl 49 127) HT_ ?_
      refine zP 7 114 (bl 49 255) HT_ ?_
      refine zP 8 115 (bl 49 511) HT_ ?_
      refine zP 9 116 (bl 49 1023) HT_ ?_
      refine zO 10 117 (bl 49 2047) HT_ ?_
      refine zO 11 118 (bl 49 4095) HT_ ?_
      refine zO 12 119 (bl 49 8191) HT_ ?_
      refine zP 13 120 (bl 49 16383) HT_ ?_
      refine zP 14 121 (bl 49 32767) HT_ ?_
      refine zO 15 122 (bl 49 65535) HT_ ?_
      refine zO 16 123 (bl 49 131071) HT_ ?_
      refine zO 17 124 (bl 49 262143) HT_ ?_
      refine zO 18 125 (bl 49 524287) HT_ ?_
      refine zO 19 126 (bl 49 1048575) HT_ ?_
      refine zO 20 127 (bl 49 2097151) HT_ ?_
      refine zO 21 128 (bl 49 4194303) HT_ ?_
      refine zO 22 129 (bl 49 8388607) HT_ ?_
      refine zO 23 130 (bl 49 16777215) HT_ ?_
      refine zO 24 131 (bl 49 33554431) HT_ ?_
      refine zO 25 132 (bl 49 67108863) HT_ ?_
      refine zO 26 133 (bl 49 134217727) HT_ ?_
      refine zO 27 134 (bl 49 268435455) HT_ ?_
      refine zP 28 135 (bl 49 536870911) HT_ ?_
      refine zP 29 136 (bl 49 1073741823) HT_ ?_
      refine zO 30 137 (bl 49 2147483647) HT_ ?_
      refine zO 31 138 (bl 49 4294967295) HT_ ?_
      refine zO 32 139 (bl 49 8589934591) HT_ ?_
      refine zO 33 140 (bl 49 17179869183) HT_ ?_
      refine zO 34 141 (bl 49 34359738367) HT_ ?_
      refine zO 35 142 (bl 49 68719476735) HT_ ?_
      refine zO 36 143 (bl 49 137438953471) HT_ ?_
      refine zO 37 144 (bl 49 274877906943) HT_ ?_
      refine zO 38 145 (bl 49 549755813887) HT_ ?_
      refine zO 39 146 (bl 49 1099511627775) HT_ ?_
      refine zO 40 147 (bl 49 2199023255551) HT_ ?_
      refine zO 41 148 (bl 49 4398046511103) HT_ ?_
      refine zO 42 149 (bl 49 8796093022207) HT_ ?_
      refine zO 43 150 (bl 49 17592186044415) HT_ ?_
      refine zO 44 151 (bl 49 35184372088831) HT_ ?_
      refine zO 45 152 (bl 49 70368744177663) HT_ ?_
      refine zO 46 153 (bl 49 140737488355327) HT_ ?_
      refine zO 47 154 (bl 49 281474976710655) HT_ ?_
      refine zP 48 155 (bl 49 562949953421311) HT_ ?_
      refine done_ (done_of HT_.out (by kernel_rfl)) ?_
      try go_wp2
      go_meet
      case rel => exact ⟨_, (true), zR, H', ⟨by have := e3.out; have := g3.out; have := N3.out; have := a5.out; first | omega | exact Nat.le_refl _⟩, ⟨zkR B⟩, ⟨zM l⟩, ⟨zB⟩⟩
    rw [if_neg l9] at H
    have a6d := z2 l9
    clear l9
    replace H := z6 H
    obtain ⟨a7t, a5d, H⟩ := H
    have A47 := zK a5d
    clear a5d
    by_cases c48 : a7t = true
    · as_aux_lemma =>
      subst c48
      rw [if_pos rfl] at H
      have H' := zK H
      clear H
      try go_wp2
      have q0 := zK (Kd.R_drew B.out)
      have t0 := zK (zd l.out)
      have x0 := zK (ze HB.out)
      revert q0 t0 x0
      clear B l HB
      intro B l HB
      obtain ⟨a7u, a7x, a5e⟩ := Kd.R_slice B.out
      (first | subst a5e | (injection a5e with f1_ f2_ f3_; have f4_ := f1_.symm; have f5_ := f3_.symm; clear f1_ f2_ f3_; subst f4_; subst f5_))
      refine start_ (n := 49) (S := fun w' => w'.cell? ⟨I, 0, none⟩ = some (.slice N0 E.length C0) ∧ w'.cell? ⟨I, 1, none⟩ = some (.slice O0 J.length R0) ∧ w'.cell? ⟨I, 2, none⟩ = some (.slice (some O) z.length S0) ∧ w'.cell? ⟨I, 3, none⟩ = some (.slice X1 u.length T0) ∧ w'.cell? ⟨I, 4, none⟩ = some (.slice U0 M.length V0)) (ds := []) (bl 49 0) (by kernel_rfl) rfl (by kernel_rfl) ⟨zy l 0, zy l 1, zy l 2, zy l 3, zy l 4⟩ (fun hHeld => ?_); refine with_tabW spec_NestOk.tab19 spec_NestOk.bits19 (fun HT_ HW_ => ?_)
      generalize wr.drew = w49 at B l HB hHeld ⊢
      refine zP 0 107 (bl 49 1) HT_ ?_
      refine zP 1 108 (bl 49 3) HT_ ?_
      refine zP 2 109 (bl 49 7) HT_ ?_
      refine zP 3 110 (bl 49 15) HT_ ?_
      refine zP 4 111 (bl 49 31) HT_ ?_
      refine zT 5 112 (bl 49 63) rfl rfl HT_ HW_ hHeld (by rintro w' ⟨s0, s1, s2, s3, s4⟩; go_simp; with_reducible rfl) ?_
      refine zP 6 113 (bl 49 127) HT_ ?_
      refine zP 7 114 (bl 49 255) HT_ ?_
      refine zP 8 115 (bl 49 511) HT_ ?_
      refine zP 9 116 (bl 49 1023) HT_ ?_
      refine zP 10 117 (bl 49 2047) HT_ ?_
      refine zP 11 118 (bl 49 4095) HT_ ?_
      refine one_ (i := 12) (N := some 119) (bl 49 8191) rfl rfl (one_of HT_.out (by kernel_rfl)) (by decide) (fun K hK => ?_)
      refine goes_ Try.func39 (by kernel_rfl) rfl #[.slice a7u B0.length a7x, .int .i64 ((rd_T71 z y).f0)] (by rfl) rfl rfl zL ?_
      refine (spec_l7Has.calls k4 _ _ B0 ((rd_T71 z y).f0) true _ (zC (Kd.R_reads' B.out).2.2) ((Kd.R_reads' B.out).2.1) A47.out).mono ?_
      rintro e w' ⟨rfl, ⟨nd, rfl⟩⟩
      refine ⟨_, rfl, ?_⟩
      refine hK.out _ _ ⟨zy l 0, zy l 1, zy l 2, zy l 3, zy l 4⟩ (fun hHeld => ?_)
      clear hK K
      refine zU 119 ?_
      refine zP 13 120 (bl 49 16383) HT_ ?_
      refine zP 14 121 (bl 49 32767) HT_ ?_
      refine zO 15 122 (bl 49 65535) HT_ ?_
      refine zO 16 123 (bl 49 131071) HT_ ?_
      refine zO 17 124 (bl 49 262143) HT_ ?_
      refine zO 18 125 (bl 49 524287) HT_ ?_
      refine zO 19 126 (bl 49 1048575) HT_ ?_
      refine zO 20 127 (bl 49 2097151) HT_ ?_
      refine zO 21 128 (bl 49 4194303) HT_ ?_
      refine zO 22 129 (bl 49 8388607) HT_ ?_
      refine zO 23 130 (bl 49 16777215) HT_ ?_
      refine zO 24 131 (bl 49 33554431) HT_ ?_
      refine zO 25 132 (bl 49 67108863) HT_ ?_
      refine zO 26 133 (bl 49 134217727) HT_ ?_
      refine zO 27 134 (bl 49 268435455) HT_ ?_
      refine zP 28 135 (bl 49 536870911) HT_ ?_
      refine zP 29 136 (bl 49 1073741823) HT_ ?_
      refine zO 30 137 (bl 49 2147483647) HT_ ?_
      refine zO 31 138 (bl 49 4294967295) HT_ ?_
      refine zO 32 139 (bl 49 8589934591) HT_ ?_
      refine zO 33 140 (bl 49 17179869183) HT_ ?_
      refine zO 34 141 (bl 49 34359738367) HT_ ?_
      refine zO 35 142 (bl 49 68719476735) HT_ ?_
      refine zO 36 143 (bl 49 137438953471) HT_ ?_
      refine zO 37 144 (bl 49 274877906943) HT_ ?_
      refine zO 38 145 (bl 49 549755813887) HT_ ?_
      refine zO 39 146 (bl 49 1099511627775) HT_ ?_
      refine zO 40 147 (bl 49 2199023255551) HT_ ?_
      refine zO 41 148 (bl 49 4398046511103) HT_ ?_
      refine zO 42 149 (bl 49 8796093022207) HT_ ?_
      refine zO 43 150 (bl 49 17592186044415) HT_ ?_
      refine zO 44 151 (bl 49 35184372088831) HT_ ?_
      refine zO 45 152 (bl 49 70368744177663) HT_ ?_
      refine zO 46 153 (bl 49 140737488355327) HT_ ?_
      refine zO 47 154 (bl 49 281474976710655) HT_ ?_
      refine zP 48 155 (bl 49 562949953421311) HT_ ?_
      refine done_ (done_of HT_.out (by kernel_rfl)) ?_
      try go_wp2
      go_meet
      case rel => exact ⟨_, (true), zR, H', ⟨by have := e3.out; have := g3.out; have := N3.out; have := a5.out; first | omega | exact Nat.le_refl _⟩, ⟨zkR B⟩, ⟨zM l⟩, ⟨zB⟩⟩
    replace c48 := Bool.eq_false_iff.mpr c48
    subst c48
    rw [if_neg (show ¬ (false = true) by decide)] at H
    by_cases M8 : 0 ≤ ((rd_T71 z y).f0)
    rotate_left
    · rw [if_neg M8] at H
      exact absurd H (by simp)
    rw [if_pos M8] at H
    have b2x := z1 M8
    clear M8
    by_cases N8 : ((rd_T71 z y).f0) < (E.length : Int)
    rotate_left
    · rw [if_neg N8] at H
      exact absurd H (by simp)
    rw [if_pos N8] at H
    have b2y := z1 N8
    clear N8
    by_cases f6 : (((rd_T71 z y).f1).length : Int) = (rd E ((rd_T71 z y).f0))
    rotate_left
    · as_aux_lemma =>
      rw [if_neg f6] at H
      have J9 := beq_eq_false_iff_ne.mpr f6
      have L9 := bne_iff_ne.mpr f6
      have H' := zK H
      clear H
      try go_wp2
      have q0 := zK (Kd.R_drew B.out)
      have t0 := zK (zd l.out)
      have x0 := zK (ze HB.out)
      revert q0 t0 x0
      clear B l HB
      intro B l HB
      obtain ⟨a7y, a7z, a5f⟩ := Kd.R_slice B.out
      (first | subst a5f | (injection a5f with f1_ f2_ f3_; have f4_ := f1_.symm; have f5_ := f3_.symm; clear f1_ f2_ f3_; subst f4_; subst f5_))
      have n2 : 0 ≤ (y : Int) := z3
      have q2 : y < (z.length : Int) := z3
      obtain ⟨y6, b2, d2, C7, T, L, T1, U1⟩ := at_T71 I3.out y n2 q2
      have m1 := L
      have n1 := T
      obtain rfl : O = y6 := (by injection C7)
      (try replace T := zX HB T)
      have V1 := L
      (try replace L := zX HB L)
      have E3 := zK U1
      have m9 := zK T1
      clear U1 T1
      replace n2 := eq_true n2
      replace q2 := eq_true q2
      have o2 : 0 ≤ (((rd_T71 z y).f0) : Int) := z3
      have t2 : ((rd_T71 z y).f0) < (E.length : Int) := z3
      obtain ⟨i3, D7, U⟩ := Kd.at_int a2.out ((rd_T71 z y).f0) o2 t2
      have o1 := U
      cases D7
      (try replace U := zX HB U)
      replace o2 := eq_true o2
      replace t2 := eq_true t2
      refine start_ (n := 49) (S := fun w' => w'.cell? ⟨I, 0, none⟩ = some (.slice (some i3) E.length C0) ∧ w'.cell? ⟨I, 1, none⟩ = some (.slice O0 J.length R0) ∧ w'.cell? ⟨I, 2, none⟩ = some (.slice (some O) z.length S0) ∧ w'.cell? ⟨I, 3, none⟩ = some (.slice X1 u.length T0) ∧ w'.cell? ⟨I, 4, none⟩ = some (.slice U0 M.length V0) ∧ w'.cell? (O.add ((y).toNat * 2)) = some (.int .i64 ((rd_T71 z y).f0)) ∧ w'.cell? ⟨(O.add ((y).toNat * 2)).block, (O.add ((y).toNat * 2)).off + 1, none⟩ = some (.slice b2 ((rd_T71 z y).f1).length d2) ∧ w'.cell? (i3.add (((rd_T71 z y).f0)).toNat) = some (.int .i64 (rd E ((rd_T71 z y).f0)))) (ds := []) (bl 49 0) (by kernel_rfl) rfl (by kernel_rfl) ⟨zy l 0, zy l 1, zy l 2, zy l 3, zy l 4, (zX HB n1:), (zX HB m1:), (zX HB o1:)⟩ (fun hHeld => ?_); refine with_tabW spec_NestOk.tab19 spec_NestOk.bits19 (fun HT_ HW_ => ?_)
      generalize wr.drew = w60 at B l HB E3 T L U hHeld ⊢
      refine zP 0 107 (bl 49 1) HT_ ?_
      refine zP 1 108 (bl 49 3) HT_ ?_
      refine zP 2 109 (bl 49 7) HT_ ?_
      refine zP 3 110 (bl 49 15) HT_ ?_
      refine zP 4 111 (bl 49 31) HT_ ?_
      refine zT 5 112 (bl 49 63) rfl rfl HT_ HW_ hHeld (by rintro w' ⟨s0, s1, s2, s3, s4, s5, s6, s7⟩; go_simp; with_reducible rfl) ?_
      refine zP 6 113 (bl 49 127) HT_ ?_
      refine zP 7 114 (bl 49 255) HT_ ?_
      refine zP 8 115 (bl 49 511) HT_ ?_
      refine zP 9 116 (bl 49 1023) HT_ ?_
      refine zP 10 117 (bl 49 2047) HT_ ?_
      refine zP 11 118 (bl 49 4095) HT_ ?_
      refine one_ (i := 12) (N := some 119) (bl 49 8191) rfl rfl (one_of HT_.out (by kernel_rfl)) (by decide) (fun K hK => ?_)
      refine goes_ Try.func39 (by kernel_rfl) rfl #[.slice a7y B0.length a7z, .int .i64 ((rd_T71 z y).f0)] (by rfl) rfl rfl zL ?_
      refine (spec_l7Has.calls k4 _ _ B0 ((rd_T71 z y).f0) false _ (zC (Kd.R_reads' B.out).2.2) ((Kd.R_reads' B.out).2.1) A47.out).mono ?_
      rintro e w' ⟨rfl, ⟨nd, rfl⟩⟩
      refine ⟨_, rfl, ?_⟩
      refine hK.out _ _ ⟨zy l 0, zy l 1, zy l 2, zy l 3, zy l 4, (zX HB n1:), (zX HB m1:), (zX HB o1:)⟩ (fun hHeld => ?_)
      clear hK K
      refine zU 119 ?_
      refine zP 13 120 (bl 49 16383) HT_ ?_
      refine zP 14 121 (bl 49 32767) HT_ ?_
      refine zP 15 122 (bl 49 65535) HT_ ?_
      refine zP 17 124 (bl 49 196607) HT_ ?_
      refine zP 22 129 (bl 49 4390911) HT_ ?_
      refine zP 24 131 (bl 49 21168127) HT_ ?_
      refine zT 16 123 (bl 49 21233663) rfl rfl HT_ HW_ hHeld (by rintro w' ⟨s0, s1, s2, s3, s4, s5, s6, s7⟩; go_simp; with_reducible rfl) ?_
      refine zP 18 125 (bl 49 21495807) HT_ ?_
      refine zP 19 126 (bl 49 22020095) HT_ ?_
      refine zT 20 127 (bl 49 23068671) rfl rfl HT_ HW_ hHeld (by rintro w' ⟨s0, s1, s2, s3, s4, s5, s6, s7⟩; go_simp; with_reducible rfl) ?_
      refine zP 21 128 (bl 49 25165823) HT_ ?_
      refine zT 23 130 (bl 49 33554431) rfl rfl HT_ HW_ hHeld (by rintro w' ⟨s0, s1, s2, s3, s4, s5, s6, s7⟩; go_simp; with_reducible rfl) ?_
      refine zP 25 132 (bl 49 67108863) HT_ ?_
      refine zT 26 133 (bl 49 134217727) rfl rfl HT_ HW_ hHeld (by rintro w' ⟨s0, s1, s2, s3, s4, s5, s6, s7⟩; go_simp; with_reducible rfl) ?_
      refine zP 27 134 (bl 49 268435455) HT_ ?_
      refine zP 28 135 (bl 49 536870911) HT_ ?_
      refine zP 29 136 (bl 49 1073741823) HT_ ?_
      refine zO 30 137 (bl 49 2147483647) HT_ ?_
      refine zO 31 138 (bl 49 4294967295) HT_ ?_
      refine zO 32 139 (bl 49 8589934591) HT_ ?_
      refine zO 33 140 (bl 49 17179869183) HT_ ?_
      refine zO 34 141 (bl 49 34359738367) HT_ ?_
      refine zO 35 142 (bl 49 68719476735) HT_ ?_
      refine zO 36 143 (bl 49 137438953471) HT_ ?_
      refine zO 37 144 (bl 49 274877906943) HT_ ?_
      refine zO 38 145 (bl 49 549755813887) HT_ ?_
      refine zO 39 146 (bl 49 1099511627775) HT_ ?_
      refine zO 40 147 (bl 49 2199023255551) HT_ ?_
      refine zO 41 148 (bl 49 4398046511103) HT_ ?_
      refine zO 42 149 (bl 49 8796093022207) HT_ ?_
      refine zO 43 150 (bl 49 17592186044415) HT_ ?_
      refine zO 44 151 (bl 49 35184372088831) HT_ ?_
      refine zO 45 152 (bl 49 70368744177663) HT_ ?_
      refine zO 46 153 (bl 49 140737488355327) HT_ ?_
      refine zO 47 154 (bl 49 281474976710655) HT_ ?_
      refine zP 48 155 (bl 49 562949953421311) HT_ ?_
      refine done_ (done_of HT_.out (by kernel_rfl)) ?_
      try go_wp2
      go_meet
      case rel => exact ⟨_, (true), zR, H', ⟨by have := e3.out; have := g3.out; have := N3.out; have := a5.out; first | omega | exact Nat.le_refl _⟩, ⟨zkR B⟩, ⟨zM l⟩, ⟨zB⟩⟩
    rw [if_pos f6] at H
    have J9 := beq_iff_eq.mpr f6
    have L9 := bne_eq_false_iff_eq.mpr f6
    clear f6
    by_cases n9 : (((rd_T71 z y).f1).length : Int) > 0
    rotate_left
    · as_aux_lemma =>
      rw [if_neg n9] at H
      have a6e := z2 n9
      have a6f : decide (0 < ((rd_T71 z y).f1).length) = false := z2 (by omega)
      clear n9
      have H' := zK H
      clear H
      try go_wp2
      have q0 := zK (Kd.R_drew B.out)
      have t0 := zK (zd l.out)
      have x0 := zK (ze HB.out)
      revert q0 t0 x0
      clear B l HB
      intro B l HB
      obtain ⟨a8a, a8b, a5g⟩ := Kd.R_slice B.out
      (first | subst a5g | (injection a5g with f1_ f2_ f3_; have f4_ := f1_.symm; have f5_ := f3_.symm; clear f1_ f2_ f3_; subst f4_; subst f5_))
      have n2 : 0 ≤ (y : Int) := z3
      have q2 : y < (z.length : Int) := z3
      obtain ⟨y6, b2, d2, C7, T, L, T1, U1⟩ := at_T71 I3.out y n2 q2
      have m1 := L
      have n1 := T
      obtain rfl : O = y6 := (by injection C7)
      (try replace T := zX HB T)
      have V1 := L
      (try replace L := zX HB L)
      have E3 := zK U1
      have m9 := zK T1
      clear U1 T1
      replace n2 := eq_true n2
      replace q2 := eq_true q2
      have o2 : 0 ≤ (((rd_T71 z y).f0) : Int) := z3
      have t2 : ((rd_T71 z y).f0) < (E.length : Int) := z3
      obtain ⟨i3, D7, U⟩ := Kd.at_int a2.out ((rd_T71 z y).f0) o2 t2
      have o1 := U
      cases D7
      (try replace U := zX HB U)
      replace o2 := eq_true o2
      replace t2 := eq_true t2
      have e5 : 0 ≤ (y : Int) := z3
      have f5 : y < (z.length : Int) := z3
      obtain ⟨N9, a5j, a5l, a0l, t1, p0, F3, G3⟩ := at_T71 I3.out y e5 f5
      have U2 := p0
      have V2 := t1
      obtain rfl : O = N9 := (by injection a0l)
      (try replace t1 := zX HB t1)
      have M6 := p0
      (try replace p0 := zX HB p0)
      have N6 := zK G3
      have a4b := zK F3
      clear G3 F3
      replace e5 := eq_true e5
      replace f5 := eq_true f5
      have ea_ := z5 (by first | exact L.symm.trans p0 | exact V1.symm.trans M6)
      injection ea_ with ea_ en_ ec_
      subst ea_
      subst ec_
      clear en_
      (try (have ea_ := z5 (by first | exact V1.symm.trans o9 | exact L.symm.trans D3); injection ea_ with ea_ en_ ec_; subst ea_; subst ec_; clear en_))
      refine start_ (n := 49) (S := fun w' => w'.cell? ⟨I, 0, none⟩ = some (.slice (some i3) E.length C0) ∧ w'.cell? ⟨I, 1, none⟩ = some (.slice O0 J.length R0) ∧ w'.cell? ⟨I, 2, none⟩ = some (.slice (some O) z.length S0) ∧ w'.cell? ⟨I, 3, none⟩ = some (.slice X1 u.length T0) ∧ w'.cell? ⟨I, 4, none⟩ = some (.slice U0 M.length V0) ∧ w'.cell? (O.add ((y).toNat * 2)) = some (.int .i64 ((rd_T71 z y).f0)) ∧ w'.cell? ⟨(O.add ((y).toNat * 2)).block, (O.add ((y).toNat * 2)).off + 1, none⟩ = some (.slice b2 ((rd_T71 z y).f1).length d2) ∧ w'.cell? (i3.add (((rd_T71 z y).f0)).toNat) = some (.int .i64 (rd E ((rd_T71 z y).f0))) ∧ w'.cell? (O.add ((y).toNat * 2)) = some (.int .i64 ((rd_T71 z y).f0)) ∧ w'.cell? ⟨(O.add ((y).toNat * 2)).block, (O.add ((y).toNat * 2)).off + 1, none⟩ = some (.slice b2 ((rd_T71 z y).f1).length d2)) (ds := []) (bl 49 0) (by kernel_rfl) rfl (by kernel_rfl) ⟨zy l 0, zy l 1, zy l 2, zy l 3, zy l 4, (zX HB n1:), (zX HB m1:), (zX HB o1:), (zX HB V2:), (zX HB U2:)⟩ (fun hHeld => ?_); refine with_tabW spec_NestOk.tab19 spec_NestOk.bits19 (fun HT_ HW_ => ?_)
      generalize wr.drew = w58 at B l HB E3 N6 T L U t1 p0 hHeld ⊢
      refine zP 0 107 (bl 49 1) HT_ ?_
      refine zP 1 108 (bl 49 3) HT_ ?_
      refine zP 2 109 (bl 49 7) HT_ ?_
      refine zP 3 110 (bl 49 15) HT_ ?_
      refine zP 4 111 (bl 49 31) HT_ ?_
      refine zT 5 112 (bl 49 63) rfl rfl HT_ HW_ hHeld (by rintro w' ⟨s0, s1, s2, s3, s4, s5, s6, s7, s8, s9⟩; go_simp; with_reducible rfl) ?_
      refine zP 6 113 (bl 49 127) HT_ ?_
      refine zP 7 114 (bl 49 255) HT_ ?_
      refine zP 8 115 (bl 49 511) HT_ ?_
      refine zP 9 116 (bl 49 1023) HT_ ?_
      refine zP 10 117 (bl 49 2047) HT_ ?_
      refine zP 11 118 (bl 49 4095) HT_ ?_
      refine one_ (i := 12) (N := some 119) (bl 49 8191) rfl rfl (one_of HT_.out (by kernel_rfl)) (by decide) (fun K hK => ?_)
      refine goes_ Try.func39 (by kernel_rfl) rfl #[.slice a8a B0.length a8b, .int .i64 ((rd_T71 z y).f0)] (by rfl) rfl rfl zL ?_
      refine (spec_l7Has.calls k4 _ _ B0 ((rd_T71 z y).f0) false _ (zC (Kd.R_reads' B.out).2.2) ((Kd.R_reads' B.out).2.1) A47.out).mono ?_
      rintro e w' ⟨rfl, ⟨nd, rfl⟩⟩
      refine ⟨_, rfl, ?_⟩
      refine hK.out _ _ ⟨zy l 0, zy l 1, zy l 2, zy l 3, zy l 4, (zX HB n1:), (zX HB m1:), (zX HB o1:), (zX HB V2:), (zX HB U2:)⟩ (fun hHeld => ?_)
      clear hK K
      refine zU 119 ?_
      refine zP 13 120 (bl 49 16383) HT_ ?_
      refine zP 14 121 (bl 49 32767) HT_ ?_
      refine zP 15 122 (bl 49 65535) HT_ ?_
      refine zP 17 124 (bl 49 196607) HT_ ?_
      refine zP 22 129 (bl 49 4390911) HT_ ?_
      refine zP 24 131 (bl 49 21168127) HT_ ?_
      refine zT 16 123 (bl 49 21233663) rfl rfl HT_ HW_ hHeld (by rintro w' ⟨s0, s1, s2, s3, s4, s5, s6, s7, s8, s9⟩; go_simp; with_reducible rfl) ?_
      refine zP 18 125 (bl 49 21495807) HT_ ?_
      refine zP 19 126 (bl 49 22020095) HT_ ?_
      refine zT 20 127 (bl 49 23068671) rfl rfl HT_ HW_ hHeld (by rintro w' ⟨s0, s1, s2, s3, s4, s5, s6, s7, s8, s9⟩; go_simp; with_reducible rfl) ?_
      refine zP 21 128 (bl 49 25165823) HT_ ?_
      refine zT 23 130 (bl 49 33554431) rfl rfl HT_ HW_ hHeld (by rintro w' ⟨s0, s1, s2, s3, s4, s5, s6, s7, s8, s9⟩; go_simp; with_reducible rfl) ?_
      refine zP 25 132 (bl 49 67108863) HT_ ?_
      refine zT 26 133 (bl 49 134217727) rfl rfl HT_ HW_ hHeld (by rintro w' ⟨s0, s1, s2, s3, s4, s5, s6, s7, s8, s9⟩; go_simp; with_reducible rfl) ?_
      refine zP 27 134 (bl 49 268435455) HT_ ?_
      refine zP 28 135 (bl 49 536870911) HT_ ?_
      refine zP 29 136 (bl 49 1073741823) HT_ ?_
      refine zP 30 137 (bl 49 2147483647) HT_ ?_
      refine zP 32 139 (bl 49 6442450943) HT_ ?_
      refine zT 31 138 (bl 49 8589934591) rfl rfl HT_ HW_ hHeld (by rintro w' ⟨s0, s1, s2, s3, s4, s5, s6, s7, s8, s9⟩; go_simp; with_reducible rfl) ?_
      refine zP 33 140 (bl 49 17179869183) HT_ ?_
      refine zP 34 141 (bl 49 34359738367) HT_ ?_
      refine zT 35 142 (bl 49 68719476735) rfl rfl HT_ HW_ hHeld (by rintro w' ⟨s0, s1, s2, s3, s4, s5, s6, s7, s8, s9⟩; go_simp; with_reducible rfl) ?_
      refine zP 36 143 (bl 49 137438953471) HT_ ?_
      refine zP 37 144 (bl 49 274877906943) HT_ ?_
      refine zP 38 145 (bl 49 549755813887) HT_ ?_
      refine zO 39 146 (bl 49 1099511627775) HT_ ?_
      refine zO 40 147 (bl 49 2199023255551) HT_ ?_
      refine zO 41 148 (bl 49 4398046511103) HT_ ?_
      refine zO 42 149 (bl 49 8796093022207) HT_ ?_
      refine zO 43 150 (bl 49 17592186044415) HT_ ?_
      refine zO 44 151 (bl 49 35184372088831) HT_ ?_
      refine zO 45 152 (bl 49 70368744177663) HT_ ?_
      refine zO 46 153 (bl 49 140737488355327) HT_ ?_
      refine zP 47 154 (bl 49 281474976710655) HT_ ?_
      refine zP 48 155 (bl 49 562949953421311) HT_ ?_
      refine done_ (done_of HT_.out (by kernel_rfl)) ?_
      try go_wp2
      go_meet
      case rel => exact ⟨_, (false), zR, H', ⟨by have := e3.out; have := g3.out; have := N3.out; have := a5.out; first | omega | exact Nat.le_refl _⟩, ⟨zkR B⟩, ⟨zM l⟩, ⟨zB⟩⟩
    rw [if_pos n9] at H
    have a6e := z1 n9
    have a6f : decide (0 < ((rd_T71 z y).f1).length) = true := z1 (by omega)
    clear n9
    replace H := z6 H
    obtain ⟨a5m, a5n, H⟩ := H
    have A55 := zK a5n
    clear a5n
    have H' := zK H
    clear H
    try go_wp2
    have q0 := zK (Kd.R_drew B.out)
    have t0 := zK (zd l.out)
    have x0 := zK (ze HB.out)
    revert q0 t0 x0
    clear B l HB
    intro B l HB
    obtain ⟨a8c, a8d, a5o⟩ := Kd.R_slice B.out
    (first | subst a5o | (injection a5o with f1_ f2_ f3_; have f4_ := f1_.symm; have f5_ := f3_.symm; clear f1_ f2_ f3_; subst f4_; subst f5_))
    have n2 : 0 ≤ (y : Int) := z3
    have q2 : y < (z.length : Int) := z3
    obtain ⟨y6, b2, d2, C7, T, L, T1, U1⟩ := at_T71 I3.out y n2 q2
    have m1 := L
    have n1 := T
    obtain rfl : O = y6 := (by injection C7)
    (try replace T := zX HB T)
    have V1 := L
    (try replace L := zX HB L)
    have E3 := zK U1
    have m9 := zK T1
    clear U1 T1
    replace n2 := eq_true n2
    replace q2 := eq_true q2
    have o2 : 0 ≤ (((rd_T71 z y).f0) : Int) := z3
    have t2 : ((rd_T71 z y).f0) < (E.length : Int) := z3
    obtain ⟨i3, D7, U⟩ := Kd.at_int a2.out ((rd_T71 z y).f0) o2 t2
    have o1 := U
    cases D7
    (try replace U := zX HB U)
    replace o2 := eq_true o2
    replace t2 := eq_true t2
    have e5 : 0 ≤ (y : Int) := z3
    have f5 : y < (z.length : Int) := z3
    obtain ⟨N9, a5j, a5l, a0l, t1, p0, F3, G3⟩ := at_T71 I3.out y e5 f5
    have U2 := p0
    have V2 := t1
    obtain rfl : O = N9 := (by injection a0l)
    (try replace t1 := zX HB t1)
    have M6 := p0
    (try replace p0 := zX HB p0)
    have N6 := zK G3
    have a4b := zK F3
    clear G3 F3
    replace e5 := eq_true e5
    replace f5 := eq_true f5
    have ea_ := z5 (by first | exact L.symm.trans p0 | exact V1.symm.trans M6)
    injection ea_ with ea_ en_ ec_
    subst ea_
    subst ec_
    clear en_
    (try (have ea_ := z5 (by first | exact V1.symm.trans o9 | exact L.symm.trans D3); injection ea_ with ea_ en_ ec_; subst ea_; subst ec_; clear en_))
    have a0m : 0 ≤ (y : Int) := z3
    have a0n : y < (z.length : Int) := z3
    obtain ⟨a6g, b2m, b2n, a8e, V4, X2, p9, q9⟩ := at_T71 I3.out y a0m a0n
    have O6 := X2
    have R6 := V4
    obtain rfl : O = a6g := (by injection a8e)
    (try replace V4 := zX HB V4)
    have a4c := X2
    (try replace X2 := zX HB X2)
    have t9 := zK q9
    have a4d := zK p9
    clear q9 p9
    replace a0m := eq_true a0m
    replace a0n := eq_true a0n
    have ea_ := z5 (by first | exact L.symm.trans X2 | exact V1.symm.trans a4c)
    injection ea_ with ea_ en_ ec_
    subst ea_
    subst ec_
    clear en_
    (try (have ea_ := z5 (by first | exact V1.symm.trans o9 | exact L.symm.trans D3); injection ea_ with ea_ en_ ec_; subst ea_; subst ec_; clear en_))
    refine start_ (n := 49) (S := fun w' => w'.cell? ⟨I, 0, none⟩ = some (.slice (some i3) E.length C0) ∧ w'.cell? ⟨I, 1, none⟩ = some (.slice O0 J.length R0) ∧ w'.cell? ⟨I, 2, none⟩ = some (.slice (some O) z.length S0) ∧ w'.cell? ⟨I, 3, none⟩ = some (.slice X1 u.length T0) ∧ w'.cell? ⟨I, 4, none⟩ = some (.slice U0 M.length V0) ∧ w'.cell? (O.add ((y).toNat * 2)) = some (.int .i64 ((rd_T71 z y).f0)) ∧ w'.cell? ⟨(O.add ((y).toNat * 2)).block, (O.add ((y).toNat * 2)).off + 1, none⟩ = some (.slice b2 ((rd_T71 z y).f1).length d2) ∧ w'.cell? (i3.add (((rd_T71 z y).f0)).toNat) = some (.int .i64 (rd E ((rd_T71 z y).f0))) ∧ w'.cell? (O.add ((y).toNat * 2)) = some (.int .i64 ((rd_T71 z y).f0)) ∧ w'.cell? ⟨(O.add ((y).toNat * 2)).block, (O.add ((y).toNat * 2)).off + 1, none⟩ = some (.slice b2 ((rd_T71 z y).f1).length d2) ∧ w'.cell? (O.add ((y).toNat * 2)) = some (.int .i64 ((rd_T71 z y).f0)) ∧ w'.cell? ⟨(O.add ((y).toNat * 2)).block, (O.add ((y).toNat * 2)).off + 1, none⟩ = some (.slice b2 ((rd_T71 z y).f1).length d2)) (ds := []) (bl 49 0) (by kernel_rfl) rfl (by kernel_rfl) ⟨zy l 0, zy l 1, zy l 2, zy l 3, zy l 4, (zX HB n1:), (zX HB m1:), (zX HB o1:), (zX HB V2:), (zX HB U2:), (zX HB R6:), (zX HB O6:)⟩ (fun hHeld => ?_); refine with_tabW spec_NestOk.tab19 spec_NestOk.bits19 (fun HT_ HW_ => ?_)
    generalize wr.drew = w56 at B l HB E3 N6 t9 T L U t1 p0 V4 X2 hHeld ⊢
    refine zP 0 107 (bl 49 1) HT_ ?_
    refine zP 1 108 (bl 49 3) HT_ ?_
    refine zP 2 109 (bl 49 7) HT_ ?_
    refine zP 3 110 (bl 49 15) HT_ ?_
    refine zP 4 111 (bl 49 31) HT_ ?_
    refine zT 5 112 (bl 49 63) rfl rfl HT_ HW_ hHeld (by rintro w' ⟨s0, s1, s2, s3, s4, s5, s6, s7, s8, s9, B1, C1⟩; go_simp; with_reducible rfl) ?_
    refine zP 6 113 (bl 49 127) HT_ ?_
    refine zP 7 114 (bl 49 255) HT_ ?_
    refine zP 8 115 (bl 49 511) HT_ ?_
    refine zP 9 116 (bl 49 1023) HT_ ?_
    refine zP 10 117 (bl 49 2047) HT_ ?_
    refine zP 11 118 (bl 49 4095) HT_ ?_
    refine one_ (i := 12) (N := some 119) (bl 49 8191) rfl rfl (one_of HT_.out (by kernel_rfl)) (by decide) (fun K hK => ?_)
    refine goes_ Try.func39 (by kernel_rfl) rfl #[.slice a8c B0.length a8d, .int .i64 ((rd_T71 z y).f0)] (by rfl) rfl rfl zL ?_
    refine (spec_l7Has.calls k4 _ _ B0 ((rd_T71 z y).f0) false _ (zC (Kd.R_reads' B.out).2.2) ((Kd.R_reads' B.out).2.1) A47.out).mono ?_
    rintro e w' ⟨rfl, ⟨nd, rfl⟩⟩
    refine ⟨_, rfl, ?_⟩
    refine hK.out _ _ ⟨zy l 0, zy l 1, zy l 2, zy l 3, zy l 4, (zX HB n1:), (zX HB m1:), (zX HB o1:), (zX HB V2:), (zX HB U2:), (zX HB R6:), (zX HB O6:)⟩ (fun hHeld => ?_)
    clear hK K
    refine zU 119 ?_
    refine zP 13 120 (bl 49 16383) HT_ ?_
    refine zP 14 121 (bl 49 32767) HT_ ?_
    refine zP 15 122 (bl 49 65535) HT_ ?_
    refine zP 17 124 (bl 49 196607) HT_ ?_
    refine zP 22 129 (bl 49 4390911) HT_ ?_
    refine zP 24 131 (bl 49 21168127) HT_ ?_
    refine zT 16 123 (bl 49 21233663) rfl rfl HT_ HW_ hHeld (by rintro w' ⟨s0, s1, s2, s3, s4, s5, s6, s7, s8, s9, B1, C1⟩; go_simp; with_reducible rfl) ?_
    refine zP 18 125 (bl 49 21495807) HT_ ?_
    refine zP 19 126 (bl 49 22020095) HT_ ?_
    refine zT 20 127 (bl 49 23068671) rfl rfl HT_ HW_ hHeld (by rintro w' ⟨s0, s1, s2, s3, s4, s5, s6, s7, s8, s9, B1, C1⟩; go_simp; with_reducible rfl) ?_
    refine zP 21 128 (bl 49 25165823) HT_ ?_
    refine zT 23 130 (bl 49 33554431) rfl rfl HT_ HW_ hHeld (by rintro w' ⟨s0, s1, s2, s3, s4, s5, s6, s7, s8, s9, B1, C1⟩; go_simp; with_reducible rfl) ?_
    refine zP 25 132 (bl 49 67108863) HT_ ?_
    refine zT 26 133 (bl 49 134217727) rfl rfl HT_ HW_ hHeld (by rintro w' ⟨s0, s1, s2, s3, s4, s5, s6, s7, s8, s9, B1, C1⟩; go_simp; with_reducible rfl) ?_
    refine zP 27 134 (bl 49 268435455) HT_ ?_
    refine zP 28 135 (bl 49 536870911) HT_ ?_
    refine zP 29 136 (bl 49 1073741823) HT_ ?_
    refine zP 30 137 (bl 49 2147483647) HT_ ?_
    refine zP 32 139 (bl 49 6442450943) HT_ ?_
    refine zT 31 138 (bl 49 8589934591) rfl rfl HT_ HW_ hHeld (by rintro w' ⟨s0, s1, s2, s3, s4, s5, s6, s7, s8, s9, B1, C1⟩; go_simp; with_reducible rfl) ?_
    refine zP 33 140 (bl 49 17179869183) HT_ ?_
    refine zP 34 141 (bl 49 34359738367) HT_ ?_
    refine zT 35 142 (bl 49 68719476735) rfl rfl HT_ HW_ hHeld (by rintro w' ⟨s0, s1, s2, s3, s4, s5, s6, s7, s8, s9, B1, C1⟩; go_simp; with_reducible rfl) ?_
    refine zP 36 143 (bl 49 137438953471) HT_ ?_
    refine zP 37 144 (bl 49 274877906943) HT_ ?_
    refine zP 38 145 (bl 49 549755813887) HT_ ?_
    refine zP 39 146 (bl 49 1099511627775) HT_ ?_
    refine zP 41 148 (bl 49 3298534883327) HT_ ?_
    refine zT 40 147 (bl 49 4398046511103) rfl rfl HT_ HW_ hHeld (by rintro w' ⟨s0, s1, s2, s3, s4, s5, s6, s7, s8, s9, B1, C1⟩; go_simp; with_reducible rfl) ?_
    refine zP 42 149 (bl 49 8796093022207) HT_ ?_
    refine zP 43 150 (bl 49 17592186044415) HT_ ?_
    refine zT 44 151 (bl 49 35184372088831) rfl rfl HT_ HW_ hHeld (by rintro w' ⟨s0, s1, s2, s3, s4, s5, s6, s7, s8, s9, B1, C1⟩; go_simp; with_reducible rfl) ?_
    refine one_ (i := 45) (N := some 152) (bl 49 70368744177663) rfl rfl (one_of HT_.out (by kernel_rfl)) (by decide) (fun K hK => ?_)
    refine goes_ Try.func40 (by kernel_rfl) rfl #[.slice b2 ((rd_T71 z y).f1).length d2] (by rfl) rfl rfl zL ?_
    refine (spec_l5RowOk.calls k4 _ _ ((rd_T71 z y).f1) a5m _ (zS t9) a4d.out A55.out).mono ?_
    rintro e w' ⟨rfl, ⟨nd, rfl⟩⟩
    refine ⟨_, rfl, ?_⟩
    refine hK.out _ _ ⟨zy l 0, zy l 1, zy l 2, zy l 3, zy l 4, (zX HB n1:), (zX HB m1:), (zX HB o1:), (zX HB V2:), (zX HB U2:), (zX HB R6:), (zX HB O6:)⟩ (fun hHeld => ?_)
    clear hK K
    refine zU 152 ?_
    refine zP 46 153 (bl 49 140737488355327) HT_ ?_
    refine zP 47 154 (bl 49 281474976710655) HT_ ?_
    refine zP 48 155 (bl 49 562949953421311) HT_ ?_
    refine done_ (done_of HT_.out (by kernel_rfl)) ?_
    try go_wp2
    go_meet
    case rel => exact ⟨_, (!a5m), zR, H', ⟨by have := e3.out; have := g3.out; have := N3.out; have := a5.out; first | omega | exact Nat.le_refl _⟩, ⟨zkR B⟩, ⟨zM l⟩, ⟨zB⟩⟩
   case rest =>
    clear a0f
    try clear c1
    try clear p1
    try clear q1
    try clear hx1
    try clear p2
    try clear c3
    try clear c5
    try clear c16
    try clear p16
    try clear q16
    try clear a7g
    try clear X6
    try clear M8
    try clear N8
    try clear f6
    try clear J9
    try clear L9
    try clear T
    try clear L
    try clear U
    try clear n2
    try clear o2
    try clear q2
    try clear t2
    obtain ⟨kq, U4, rfl, HA, a5p, B, l, HB⟩ := hcut
    cases kq with
    | zero => exact absurd HA.out (by simp [spec_NestOk.j4])
    | succ a5q =>
     have H := HA.out
     clear HA
     simp only [spec_NestOk.j4] at H
     by_cases U9 : U4 = true
     · subst U9
       rw [if_pos rfl] at H
       obtain rfl := z5 H
       go_wp2
       go_ret
       exact ⟨zE, zB⟩
     replace U9 := Bool.eq_false_iff.mpr U9
     subst U9
     rw [if_neg (show ¬ (false = true) by decide)] at H
     by_cases V9 : B0.length < 17592186044416
     rotate_left
     · rw [if_neg V9] at H
       exact absurd H (by simp)
     rw [if_pos V9] at H
     have LMc63 := zK V9
     clear V9
     obtain ⟨a5s, A6⟩ : ∃ y_ : List Int, y_ = (B0 ++ [((rd_T71 z y).f0)]) := ⟨_, rfl⟩
     replace H : (spec_NestOk.l2 a5q a5s (wrap64 (y + 1)) E J z u M) = some r := by first | (rw [A6]; with_reducible exact H) | (have O3 := (Option.bind_some _ _).symm.trans H; rw [A6]; with_reducible exact O3) | (have O3 := (Option.bind_some _ _).symm.trans H; with_reducible exact O3) | with_reducible exact H | (rw [A6]; exact H) | exact H
     have Ny169 := zK A6
     clear A6
     have H' := zK H
     clear H
     go_wp2_with (first | ((with_reducible refine gate_builtin (b := .append) (xs := #[.tmp 156, .tmp 158]) rfl ?_); (try (refine gate_guard (by rfl) ?_; dsimp only)); at_builtin; refine Kd.R_append (Kd.int .i64) (w0 := w) w.heap.size rfl (.tmp 156) (.tmp 158) 22 3 (.int .i64 0) 8 rfl Try.underlying22 info3 rfl (by decide) (by omega) u4 B0 ((rd_T71 z y).f0) [.int .i64 ((rd_T71 z y).f0)] (fun _ => True) (fun _ => False) rfl rfl ?aP (fun _ hk => hk.elim) ?aF ?aO ?aB ?aS ?aL ?_; (case aP => exact rfl); (case aB => exact zB); (case aF => exact (fun _ _ => trivial)); (case aO => exact (zkR B)); (case aS => exact (zz zB)); (case aL => have := LMc63.out; omega); intro v170 w64 ho hb hg hat; rw [← Ny169.out] at ho; have q0 := zK (blk_grown (zM l) hg (Kd.R_ne B.out l.out (by decide))); have t0 := zK (hb); have x0 := zK (ho); revert q0 t0 x0; clear l HB B; intro l HB a6j; clear ho hb hg hat))
     go_roundg a5q
     case measure => have := e3.out; have := g3.out; have := N3.out; have := a5.out; have := a5p.out; omega
     case rel => exact ⟨(a5s), (wrap64 (y + 1)), zR, H', ⟨by have := e3.out; have := g3.out; have := N3.out; have := a5.out; have := a5p.out; omega⟩, ⟨zkR a6j⟩, ⟨zM l⟩, ⟨zB⟩⟩
end Go.Proofs.Ytmcboiffbcnalaa.PFnExactLives
