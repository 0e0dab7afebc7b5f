-- Printed out of the translation by this session's own turned copy of a printer; Lean checks it.
import Derived.Test.YtodfhokndnmdoaaEFnExactStepOptr
import Derived.Test.YtodfhokndnmdoaaPFnExactStepOptx0
import Derived.Test.YtodfhokndnmdoaaPFnExactStepOptx1
import Derived.Test.YtodfhokndnmdoaaPFnExactStepOptx4
import Derived.Test.YtodfhokndnmdoaaPFnExactStepOptx5
import Derived.Test.YtodfhokndnmdoaaPFnExactStepOptx11
import Derived.Test.YtodfhokndnmdoaaPFnExactStepOptx12
namespace Go.Proofs.Ytodfhokndnmdoaa.PFnExactStepOpt
open Go.RowKit Go.Proofs.YtodfhokndnmdoaaW.PrintWords Go.Proofs.YtodfhokndnmdoaaW.PrintLast Go.Proofs.YtodfhokndnmdoaaW.PrintMore
attribute [local go_sem] max2_int min2_int max_two min_two max_three min_three max_four min_four
set_option linter.unusedVariables false
set_option linter.unusedSimpArgs false
set_option maxHeartbeats 100000000
set_option maxRecDepth 100000
def laws_FnExactStepOpt.f (k : Nat) (L : Int) (M : Int) (O : Int) (T : Int) (U : Int) (X : Int) (a0 : Int) (b0 : Int) (c0 : Int) (d0 : Int) (z : Int) (A : List Int) (B : List Int) (D : List Int) (E : Int) (I : Int) (J : Int) (l2 : List Int) : Option (Bool) := if (l2.length : Int) > 1048576 then (some true) else ((laws_szOpt.f A B D E I J 1048576).bind fun g0 => (if g0 < 0 then (some true) else ((laws_toRule.f L M O T U X a0 b0 c0 d0 z).bind fun u => ((laws_toOpt.f k A B D E I J).bind fun y => ((laws_toIntS.f k l2).bind fun i0 => ((spec_StepOpt.f k u.1 u.2.1 u.2.2.1 u.2.2.2.1 u.2.2.2.2.1 u.2.2.2.2.2.1 u.2.2.2.2.2.2.1 u.2.2.2.2.2.2.2.1 u.2.2.2.2.2.2.2.2.1 u.2.2.2.2.2.2.2.2.2.1 u.2.2.2.2.2.2.2.2.2.2 y.1 y.2.1 y.2.2.1 y.2.2.2.1 y.2.2.2.2.1 y.2.2.2.2.2 i0).bind fun a => ((laws_toOpt.f k A B D E I J).bind fun q => ((laws_toIntS.f k l2).bind fun e0 => ((laws_toRule.f L M O T U X a0 b0 c0 d0 z).bind fun x => ((impl_StepOpt.f k x.1 x.2.1 x.2.2.1 x.2.2.2.1 x.2.2.2.2.1 x.2.2.2.2.2.1 x.2.2.2.2.2.2.1 x.2.2.2.2.2.2.2.1 x.2.2.2.2.2.2.2.2.1 x.2.2.2.2.2.2.2.2.2.1 x.2.2.2.2.2.2.2.2.2.2 q.1 q.2.1 q.2.2.1 q.2.2.2.1 q.2.2.2.2.1 q.2.2.2.2.2 e0).bind fun l => ((laws_eqOpt.f k l.1 l.2.1 l.2.2.1 l.2.2.2.1 l.2.2.2.2.1 l.2.2.2.2.2.1 a.1 a.2.1 a.2.2.1 a.2.2.2.1 a.2.2.2.2.1 a.2.2.2.2.2.1).bind fun l0 => (if l0 = true then (laws_FnExactStepOpt.j0 k l2 a.2.2.2.2.2.2 e0 l.2.2.2.2.2.2 (l.2.2.2.2.2.2 != a.2.2.2.2.2.2) L M O T U X a0 b0 c0 d0 z A B D E I J a.1 a.2.1 a.2.2.1 a.2.2.2.1 a.2.2.2.2.1 a.2.2.2.2.2.1 q.1 q.2.1 q.2.2.1 q.2.2.2.1 q.2.2.2.2.1 q.2.2.2.2.2 l.1 l.2.1 l.2.2.1 l.2.2.2.1 l.2.2.2.2.1 l.2.2.2.2.2.1) else (laws_FnExactStepOpt.j0 k l2 a.2.2.2.2.2.2 e0 l.2.2.2.2.2.2 true L M O T U X a0 b0 c0 d0 z A B D E I J a.1 a.2.1 a.2.2.1 a.2.2.2.1 a.2.2.2.2.1 a.2.2.2.2.2.1 q.1 q.2.1 q.2.2.1 q.2.2.2.1 q.2.2.2.2.1 q.2.2.2.2.2 l.1 l.2.1 l.2.2.1 l.2.2.2.1 l.2.2.2.2.1 l.2.2.2.2.2.1)))))))))))))
def laws_FnExactStepOpt.T7 : Bool × List (List Nat × List Nat) := (true, [([], []), ([0], [0]), ([], []), ([2, 1], [2]), ([], []), ([4, 3], [4]), ([1, 3, 5, 5], [1, 3, 5]), ([6], [6]), ([7], [7]), ([7], [7]), ([], []), ([10, 8, 6, 0, 1, 2, 3, 4, 5, 6, 7, 8, 10], [8, 10]), ([9, 11, 0, 1, 2, 3, 4, 5, 6, 7, 8, 9, 10, 11], [9])])
def laws_FnExactStepOpt.B7 : List Nat := [0, 1, 0, 7, 0, 31, 63, 127, 255, 255, 0, 1535, 4095]
theorem laws_FnExactStepOpt.tab7 : rtab .any (opsOf Try.f3 7) = laws_FnExactStepOpt.T7 := by kernel_rfl
theorem laws_FnExactStepOpt.bits7 : waitsOk laws_FnExactStepOpt.T7.2 laws_FnExactStepOpt.B7 = true := by kernel_rfl
def laws_FnExactStepOpt.T10 : Bool × List (List Nat × List Nat) := (true, [([], []), ([0], [0]), ([], []), ([], []), ([1, 2, 3, 1], [1, 2, 3]), ([4], [4]), ([5], [5]), ([5], [5]), ([], []), ([8, 6, 4, 0, 1, 2, 3, 4, 5, 6, 8], [6, 8]), ([7, 9, 0, 1, 2, 3, 4, 5, 6, 7, 8, 9], [7])])
def laws_FnExactStepOpt.B10 : List Nat := [0, 1, 0, 0, 15, 31, 63, 63, 0, 383, 1023]
theorem laws_FnExactStepOpt.tab10 : rtab .any (opsOf Try.f3 10) = laws_FnExactStepOpt.T10 := by kernel_rfl
theorem laws_FnExactStepOpt.bits10 : waitsOk laws_FnExactStepOpt.T10.2 laws_FnExactStepOpt.B10 = true := by kernel_rfl
theorem laws_FnExactStepOpt.calls (k) (p1) (q1) (t1) (x1) (y1) (A1) (B1) (C1) (D1) (E1) (S0) (D2) (E2) (g1 : List Int) (F2) (G2) (i1 : List Int) (I2) (J2) (l1 : List Int) (m1) (n1) (o1) (A2) (c2) (l2 : List Int) (r : Bool) (w) (b0a : Kd.C (Kd.int .i64) w D2 g1.length g1) (b0b : g1.length ≤ E2) (b0c : Kd.C (Kd.int .i64) w F2 i1.length i1) (b0d : i1.length ≤ G2) (b0e : Kd.C (Kd.int .i64) w I2 l1.length l1) (b0f : l1.length ≤ J2) (hr2 : Kd.C (Kd.int .i64) w A2 l2.length l2) (hc2 : l2.length ≤ c2) (h : laws_FnExactStepOpt.f k p1 q1 t1 x1 y1 A1 B1 C1 D1 E1 S0 g1 i1 l1 m1 n1 o1 l2 = some true) :
 Calls Try.prog 3 #[.agg #[.int .i64 p1, .int .i64 q1, .int .i64 t1, .int .i64 x1, .int .i64 y1, .int .i64 A1, .int .i64 B1, .int .i64 C1, .int .i64 D1, .int .i64 E1, .int .i64 S0], .agg #[.slice D2 g1.length E2, .slice F2 i1.length G2, .slice I2 l1.length J2, .int .i64 m1, .int .i64 n1, .int .i64 o1], .slice A2 l2.length c2] w fun e w' => e = .returned (.bool true) ∧ Below w.heap.size w w' := by
 have c6t := Try.underlying25
 have c6u := Try.underlying28
 have c6x := Try.underlying30
 have y8 := zK b0a
 have A8 := zK b0b
 clear b0a b0b
 have B8 := zK b0c
 have C8 := zK b0d
 clear b0c b0d
 have D8 := zK b0e
 have E8 := zK b0f
 clear b0e b0f
 have U9 := zK hr2
 have V9 := zK hc2
 clear hr2 hc2
 have HB := zK (Below.refl w.heap.size w)
 have H : (if (l2.length : Int) > 1048576 then (some true) else ((laws_szOpt.f g1 i1 l1 m1 n1 o1 1048576).bind fun a2l => (if a2l < 0 then (some true) else ((laws_toRule.f p1 q1 t1 x1 y1 A1 B1 C1 D1 E1 S0).bind fun L7 => ((laws_toOpt.f k g1 i1 l1 m1 n1 o1).bind fun M6 => ((laws_toIntS.f k l2).bind fun b6 => ((spec_StepOpt.f k L7.1 L7.2.1 L7.2.2.1 L7.2.2.2.1 L7.2.2.2.2.1 L7.2.2.2.2.2.1 L7.2.2.2.2.2.2.1 L7.2.2.2.2.2.2.2.1 L7.2.2.2.2.2.2.2.2.1 L7.2.2.2.2.2.2.2.2.2.1 L7.2.2.2.2.2.2.2.2.2.2 M6.1 M6.2.1 M6.2.2.1 M6.2.2.2.1 M6.2.2.2.2.1 M6.2.2.2.2.2 b6).bind fun M2 => ((laws_toOpt.f k g1 i1 l1 m1 n1 o1).bind fun y2 => ((laws_toIntS.f k l2).bind fun J1 => ((laws_toRule.f p1 q1 t1 x1 y1 A1 B1 C1 D1 E1 S0).bind fun a3 => ((impl_StepOpt.f k a3.1 a3.2.1 a3.2.2.1 a3.2.2.2.1 a3.2.2.2.2.1 a3.2.2.2.2.2.1 a3.2.2.2.2.2.2.1 a3.2.2.2.2.2.2.2.1 a3.2.2.2.2.2.2.2.2.1 a3.2.2.2.2.2.2.2.2.2.1 a3.2.2.2.2.2.2.2.2.2.2 y2.1 y2.2.1 y2.2.2.1 y2.2.2.2.1 y2.2.2.2.2.1 y2.2.2.2.2.2 J1).bind fun R0 => ((laws_eqOpt.f k R0.1 R0.2.1 R0.2.2.1 R0.2.2.2.1 R0.2.2.2.2.1 R0.2.2.2.2.2.1 M2.1 M2.2.1 M2.2.2.1 M2.2.2.2.1 M2.2.2.2.2.1 M2.2.2.2.2.2.1).bind fun C7 => (if C7 = true then (laws_FnExactStepOpt.j0 k l2 M2.2.2.2.2.2.2 J1 R0.2.2.2.2.2.2 (R0.2.2.2.2.2.2 != M2.2.2.2.2.2.2) p1 q1 t1 x1 y1 A1 B1 C1 D1 E1 S0 g1 i1 l1 m1 n1 o1 M2.1 M2.2.1 M2.2.2.1 M2.2.2.2.1 M2.2.2.2.2.1 M2.2.2.2.2.2.1 y2.1 y2.2.1 y2.2.2.1 y2.2.2.2.1 y2.2.2.2.2.1 y2.2.2.2.2.2 R0.1 R0.2.1 R0.2.2.1 R0.2.2.2.1 R0.2.2.2.2.1 R0.2.2.2.2.2.1) else (laws_FnExactStepOpt.j0 k l2 M2.2.2.2.2.2.2 J1 R0.2.2.2.2.2.2 true p1 q1 t1 x1 y1 A1 B1 C1 D1 E1 S0 g1 i1 l1 m1 n1 o1 M2.1 M2.2.1 M2.2.2.1 M2.2.2.2.1 M2.2.2.2.2.1 M2.2.2.2.2.2.1 y2.1 y2.2.1 y2.2.2.1 y2.2.2.2.1 y2.2.2.2.2.1 y2.2.2.2.2.2 R0.1 R0.2.1 R0.2.2.1 R0.2.2.2.1 R0.2.2.2.2.1 R0.2.2.2.2.2.1)))))))))))))) = some true := h
 clear h
 by_cases c4 : (l2.length : Int) > 1048576
 rw [if_pos c4] at H
 have b4f := z1 c4
 have b4g : decide (1048576 < l2.length) = true := z1 (by omega)
 clear c4
 clear H
 rotate_left
 rw [if_neg c4] at H
 have b4f := z2 c4
 have b4g : decide (1048576 < l2.length) = false := z2 (by omega)
 clear c4
 replace H := z6 H
 obtain ⟨a2l, A70, H⟩ := H
 have A7 := zK A70
 clear A70
 by_cases c8 : a2l < 0
 rw [if_pos c8] at H
 have b4j := z1 c8
 clear c8
 clear H
 rotate_left
 rw [if_neg c8] at H
 have b4j := z2 c8
 clear c8
 replace H := z6 H
 obtain ⟨⟨O6, R6, S6, T6, U6, V6, X6, a7, b7, d7, e7⟩, b1q, H⟩ := H
 replace H : ((laws_toOpt.f k g1 i1 l1 m1 n1 o1).bind fun M6 => ((laws_toIntS.f k l2).bind fun b6 => ((spec_StepOpt.f k O6 R6 S6 T6 U6 V6 X6 a7 b7 d7 e7 M6.1 M6.2.1 M6.2.2.1 M6.2.2.2.1 M6.2.2.2.2.1 M6.2.2.2.2.2 b6).bind fun M2 => ((laws_toOpt.f k g1 i1 l1 m1 n1 o1).bind fun y2 => ((laws_toIntS.f k l2).bind fun J1 => ((laws_toRule.f p1 q1 t1 x1 y1 A1 B1 C1 D1 E1 S0).bind fun a3 => ((impl_StepOpt.f k a3.1 a3.2.1 a3.2.2.1 a3.2.2.2.1 a3.2.2.2.2.1 a3.2.2.2.2.2.1 a3.2.2.2.2.2.2.1 a3.2.2.2.2.2.2.2.1 a3.2.2.2.2.2.2.2.2.1 a3.2.2.2.2.2.2.2.2.2.1 a3.2.2.2.2.2.2.2.2.2.2 y2.1 y2.2.1 y2.2.2.1 y2.2.2.2.1 y2.2.2.2.2.1 y2.2.2.2.2.2 J1).bind fun R0 => ((laws_eqOpt.f k R0.1 R0.2.1 R0.2.2.1 R0.2.2.2.1 R0.2.2.2.2.1 R0.2.2.2.2.2.1 M2.1 M2.2.1 M2.2.2.1 M2.2.2.2.1 M2.2.2.2.2.1 M2.2.2.2.2.2.1).bind fun C7 => (if C7 = true then (laws_FnExactStepOpt.j0 k l2 M2.2.2.2.2.2.2 J1 R0.2.2.2.2.2.2 (R0.2.2.2.2.2.2 != M2.2.2.2.2.2.2) p1 q1 t1 x1 y1 A1 B1 C1 D1 E1 S0 g1 i1 l1 m1 n1 o1 M2.1 M2.2.1 M2.2.2.1 M2.2.2.2.1 M2.2.2.2.2.1 M2.2.2.2.2.2.1 y2.1 y2.2.1 y2.2.2.1 y2.2.2.2.1 y2.2.2.2.2.1 y2.2.2.2.2.2 R0.1 R0.2.1 R0.2.2.1 R0.2.2.2.1 R0.2.2.2.2.1 R0.2.2.2.2.2.1) else (laws_FnExactStepOpt.j0 k l2 M2.2.2.2.2.2.2 J1 R0.2.2.2.2.2.2 true p1 q1 t1 x1 y1 A1 B1 C1 D1 E1 S0 g1 i1 l1 m1 n1 o1 M2.1 M2.2.1 M2.2.2.1 M2.2.2.2.1 M2.2.2.2.2.1 M2.2.2.2.2.2.1 y2.1 y2.2.1 y2.2.2.1 y2.2.2.2.1 y2.2.2.2.2.1 y2.2.2.2.2.2 R0.1 R0.2.1 R0.2.2.1 R0.2.2.2.1 R0.2.2.2.2.1 R0.2.2.2.2.2.1)))))))))) = some true := H
 have A14 := zK b1q
 clear b1q
 replace H := z6 H
 obtain ⟨⟨c6, d6, e6, N7, O7, R7⟩, t9, H⟩ := H
 replace H : ((laws_toIntS.f k l2).bind fun b6 => ((spec_StepOpt.f k O6 R6 S6 T6 U6 V6 X6 a7 b7 d7 e7 c6 d6 e6 N7 O7 R7 b6).bind fun M2 => ((laws_toOpt.f k g1 i1 l1 m1 n1 o1).bind fun y2 => ((laws_toIntS.f k l2).bind fun J1 => ((laws_toRule.f p1 q1 t1 x1 y1 A1 B1 C1 D1 E1 S0).bind fun a3 => ((impl_StepOpt.f k a3.1 a3.2.1 a3.2.2.1 a3.2.2.2.1 a3.2.2.2.2.1 a3.2.2.2.2.2.1 a3.2.2.2.2.2.2.1 a3.2.2.2.2.2.2.2.1 a3.2.2.2.2.2.2.2.2.1 a3.2.2.2.2.2.2.2.2.2.1 a3.2.2.2.2.2.2.2.2.2.2 y2.1 y2.2.1 y2.2.2.1 y2.2.2.2.1 y2.2.2.2.2.1 y2.2.2.2.2.2 J1).bind fun R0 => ((laws_eqOpt.f k R0.1 R0.2.1 R0.2.2.1 R0.2.2.2.1 R0.2.2.2.2.1 R0.2.2.2.2.2.1 M2.1 M2.2.1 M2.2.2.1 M2.2.2.2.1 M2.2.2.2.2.1 M2.2.2.2.2.2.1).bind fun C7 => (if C7 = true then (laws_FnExactStepOpt.j0 k l2 M2.2.2.2.2.2.2 J1 R0.2.2.2.2.2.2 (R0.2.2.2.2.2.2 != M2.2.2.2.2.2.2) p1 q1 t1 x1 y1 A1 B1 C1 D1 E1 S0 g1 i1 l1 m1 n1 o1 M2.1 M2.2.1 M2.2.2.1 M2.2.2.2.1 M2.2.2.2.2.1 M2.2.2.2.2.2.1 y2.1 y2.2.1 y2.2.2.1 y2.2.2.2.1 y2.2.2.2.2.1 y2.2.2.2.2.2 R0.1 R0.2.1 R0.2.2.1 R0.2.2.2.1 R0.2.2.2.2.1 R0.2.2.2.2.2.1) else (laws_FnExactStepOpt.j0 k l2 M2.2.2.2.2.2.2 J1 R0.2.2.2.2.2.2 true p1 q1 t1 x1 y1 A1 B1 C1 D1 E1 S0 g1 i1 l1 m1 n1 o1 M2.1 M2.2.1 M2.2.2.1 M2.2.2.2.1 M2.2.2.2.2.1 M2.2.2.2.2.2.1 y2.1 y2.2.1 y2.2.2.1 y2.2.2.2.1 y2.2.2.2.2.1 y2.2.2.2.2.2 R0.1 R0.2.1 R0.2.2.1 R0.2.2.2.1 R0.2.2.2.2.1 R0.2.2.2.2.2.1))))))))) = some true := H
 have A15 := zK t9
 clear t9
 replace H := z6 H
 obtain ⟨b6, b1s, H⟩ := H
 have A16 := zK b1s
 clear b1s
 replace H := z6 H
 obtain ⟨⟨u, x, y, c3, d3, e3, i4⟩, b1t, H⟩ := H
 replace H : ((laws_toOpt.f k g1 i1 l1 m1 n1 o1).bind fun y2 => ((laws_toIntS.f k l2).bind fun J1 => ((laws_toRule.f p1 q1 t1 x1 y1 A1 B1 C1 D1 E1 S0).bind fun a3 => ((impl_StepOpt.f k a3.1 a3.2.1 a3.2.2.1 a3.2.2.2.1 a3.2.2.2.2.1 a3.2.2.2.2.2.1 a3.2.2.2.2.2.2.1 a3.2.2.2.2.2.2.2.1 a3.2.2.2.2.2.2.2.2.1 a3.2.2.2.2.2.2.2.2.2.1 a3.2.2.2.2.2.2.2.2.2.2 y2.1 y2.2.1 y2.2.2.1 y2.2.2.2.1 y2.2.2.2.2.1 y2.2.2.2.2.2 J1).bind fun R0 => ((laws_eqOpt.f k R0.1 R0.2.1 R0.2.2.1 R0.2.2.2.1 R0.2.2.2.2.1 R0.2.2.2.2.2.1 u x y c3 d3 e3).bind fun C7 => (if C7 = true then (laws_FnExactStepOpt.j0 k l2 i4 J1 R0.2.2.2.2.2.2 (R0.2.2.2.2.2.2 != i4) p1 q1 t1 x1 y1 A1 B1 C1 D1 E1 S0 g1 i1 l1 m1 n1 o1 u x y c3 d3 e3 y2.1 y2.2.1 y2.2.2.1 y2.2.2.2.1 y2.2.2.2.2.1 y2.2.2.2.2.2 R0.1 R0.2.1 R0.2.2.1 R0.2.2.2.1 R0.2.2.2.2.1 R0.2.2.2.2.2.1) else (laws_FnExactStepOpt.j0 k l2 i4 J1 R0.2.2.2.2.2.2 true p1 q1 t1 x1 y1 A1 B1 C1 D1 E1 S0 g1 i1 l1 m1 n1 o1 u x y c3 d3 e3 y2.1 y2.2.1 y2.2.2.1 y2.2.2.2.1 y2.2.2.2.2.1 y2.2.2.2.2.2 R0.1 R0.2.1 R0.2.2.1 R0.2.2.2.1 R0.2.2.2.2.1 R0.2.2.2.2.2.1))))))) = some true := H
 have A17 := zK b1t
 clear b1t
 replace H := z6 H
 obtain ⟨⟨L1, M1, N1, N3, O3, R3⟩, b1u, H⟩ := H
 replace H : ((laws_toIntS.f k l2).bind fun J1 => ((laws_toRule.f p1 q1 t1 x1 y1 A1 B1 C1 D1 E1 S0).bind fun a3 => ((impl_StepOpt.f k a3.1 a3.2.1 a3.2.2.1 a3.2.2.2.1 a3.2.2.2.2.1 a3.2.2.2.2.2.1 a3.2.2.2.2.2.2.1 a3.2.2.2.2.2.2.2.1 a3.2.2.2.2.2.2.2.2.1 a3.2.2.2.2.2.2.2.2.2.1 a3.2.2.2.2.2.2.2.2.2.2 L1 M1 N1 N3 O3 R3 J1).bind fun R0 => ((laws_eqOpt.f k R0.1 R0.2.1 R0.2.2.1 R0.2.2.2.1 R0.2.2.2.2.1 R0.2.2.2.2.2.1 u x y c3 d3 e3).bind fun C7 => (if C7 = true then (laws_FnExactStepOpt.j0 k l2 i4 J1 R0.2.2.2.2.2.2 (R0.2.2.2.2.2.2 != i4) p1 q1 t1 x1 y1 A1 B1 C1 D1 E1 S0 g1 i1 l1 m1 n1 o1 u x y c3 d3 e3 L1 M1 N1 N3 O3 R3 R0.1 R0.2.1 R0.2.2.1 R0.2.2.2.1 R0.2.2.2.2.1 R0.2.2.2.2.2.1) else (laws_FnExactStepOpt.j0 k l2 i4 J1 R0.2.2.2.2.2.2 true p1 q1 t1 x1 y1 A1 B1 C1 D1 E1 S0 g1 i1 l1 m1 n1 o1 u x y c3 d3 e3 L1 M1 N1 N3 O3 R3 R0.1 R0.2.1 R0.2.2.1 R0.2.2.2.1 R0.2.2.2.2.1 R0.2.2.2.2.2.1)))))) = some true := H
 have A18 := zK b1u
 clear b1u
 replace H := z6 H
 obtain ⟨J1, b1x, H⟩ := H
 have A19 := zK b1x
 clear b1x
 replace H := z6 H
 obtain ⟨⟨e8, f8, g8, i8, j8, l8, m8, n8, o8, p8, q8⟩, b1y, H⟩ := H
 replace H : ((impl_StepOpt.f k e8 f8 g8 i8 j8 l8 m8 n8 o8 p8 q8 L1 M1 N1 N3 O3 R3 J1).bind fun R0 => ((laws_eqOpt.f k R0.1 R0.2.1 R0.2.2.1 R0.2.2.2.1 R0.2.2.2.2.1 R0.2.2.2.2.2.1 u x y c3 d3 e3).bind fun C7 => (if C7 = true then (laws_FnExactStepOpt.j0 k l2 i4 J1 R0.2.2.2.2.2.2 (R0.2.2.2.2.2.2 != i4) p1 q1 t1 x1 y1 A1 B1 C1 D1 E1 S0 g1 i1 l1 m1 n1 o1 u x y c3 d3 e3 L1 M1 N1 N3 O3 R3 R0.1 R0.2.1 R0.2.2.1 R0.2.2.2.1 R0.2.2.2.2.1 R0.2.2.2.2.2.1) else (laws_FnExactStepOpt.j0 k l2 i4 J1 R0.2.2.2.2.2.2 true p1 q1 t1 x1 y1 A1 B1 C1 D1 E1 S0 g1 i1 l1 m1 n1 o1 u x y c3 d3 e3 L1 M1 N1 N3 O3 R3 R0.1 R0.2.1 R0.2.2.1 R0.2.2.2.1 R0.2.2.2.2.1 R0.2.2.2.2.2.1)))) = some true := H
 have A20 := zK b1y
 clear b1y
 replace H := z6 H
 obtain ⟨⟨U, X, a0, o3, p3, q3, D7⟩, a2m, H⟩ := H
 replace H : ((laws_eqOpt.f k U X a0 o3 p3 q3 u x y c3 d3 e3).bind fun C7 => (if C7 = true then (laws_FnExactStepOpt.j0 k l2 i4 J1 D7 (D7 != i4) p1 q1 t1 x1 y1 A1 B1 C1 D1 E1 S0 g1 i1 l1 m1 n1 o1 u x y c3 d3 e3 L1 M1 N1 N3 O3 R3 U X a0 o3 p3 q3) else (laws_FnExactStepOpt.j0 k l2 i4 J1 D7 true p1 q1 t1 x1 y1 A1 B1 C1 D1 E1 S0 g1 i1 l1 m1 n1 o1 u x y c3 d3 e3 L1 M1 N1 N3 O3 R3 U X a0 o3 p3 q3))) = some true := H
 have A21 := zK a2m
 clear a2m
 have a3s := zK H
 clear H
 all_goals go_enter Try.func3, Try.ntmps3
 all_goals try go_wp2_with (first | ((with_reducible refine gd 3 rfl ?_); refine zJ 3 #[.int .i64 p1, .int .i64 q1, .int .i64 t1, .int .i64 x1, .int .i64 y1, .int .i64 A1, .int .i64 B1, .int .i64 C1, .int .i64 D1, .int .i64 E1, .int .i64 S0] 25 ?_; intro l hg w23 hbox hb; have R1 := z8 hb; have S1 := zK (hbox); have T1 := z9 hg; have a2 := z9 hg; revert R1 S1 T1 a2; clear HB; intro HB a c4j a2n; clear hb hbox hg) | ((with_reducible refine gd 4 rfl ?_); refine zJ 4 #[.slice D2 g1.length E2, .slice F2 i1.length G2, .slice I2 l1.length J2, .int .i64 m1, .int .i64 n1, .int .i64 o1] 28 ?_; intro z hg w24 hbox hb; have R1 := z7 a hb; have S1 := z8 hb; have T1 := zK (hbox); have a2 := z9 hg; have b2 := z9 hg; have d2 := zHH hg a; have i2 := zGG hg a; revert R1 S1 T1 a2 b2 d2 i2; clear a HB; intro a HB q c4l a2o a3e a3f; clear hb hbox hg; have c4m := a3f.out; have c4n := a3e.out; obtain ⟨b6y, b6z, b7a, b7b, b7c, b7d, b7e, b7f, b7g, b7j, b7l, b7m⟩ := zc6 q) | ((with_reducible refine gc 7 rfl ?_); refine zF 24 Try.func7 #[.agg #[.slice D2 g1.length E2, .slice F2 i1.length G2, .slice I2 l1.length J2, .int .i64 m1, .int .i64 n1, .int .i64 o1], .int .i64 1048576] rfl zL ?_; refine (laws_szOpt.calls _ _ g1 _ _ i1 _ _ l1 m1 n1 o1 1048576 a2l _ (zS y8) A8.out (zS B8) C8.out (zS D8) E8.out A7.out).mono ?_; rintro e w27 ⟨rfl, hb⟩; refine ⟨_, rfl, ?_⟩; have R1 := z7 a hb; have S1 := z7 q hb; have T1 := z8 hb; revert R1 S1 T1; clear a q HB; intro a q HB))
 · have R1 := zK (zd a.out)
   have S1 := zK (zd q.out)
   have T1 := zK (ze HB.out)
   revert R1 S1 T1
   clear a q HB
   intro a q HB
   refine start_ (n := 13) (S := fun w' => w'.cell? ⟨l, 0, none⟩ = some (.int .i64 p1) ∧ w'.cell? ⟨l, 1, none⟩ = some (.int .i64 q1) ∧ w'.cell? ⟨l, 2, none⟩ = some (.int .i64 t1) ∧ w'.cell? ⟨l, 3, none⟩ = some (.int .i64 x1) ∧ w'.cell? ⟨l, 4, none⟩ = some (.int .i64 y1) ∧ w'.cell? ⟨l, 5, none⟩ = some (.int .i64 A1) ∧ w'.cell? ⟨l, 6, none⟩ = some (.int .i64 B1) ∧ w'.cell? ⟨l, 7, none⟩ = some (.int .i64 C1) ∧ w'.cell? ⟨l, 8, none⟩ = some (.int .i64 D1) ∧ w'.cell? ⟨l, 9, none⟩ = some (.int .i64 E1) ∧ w'.cell? ⟨l, 10, none⟩ = some (.int .i64 S0) ∧ w'.cell? ⟨z, 0, none⟩ = some (.slice D2 g1.length E2) ∧ w'.cell? ⟨z, 1, none⟩ = some (.slice F2 i1.length G2) ∧ w'.cell? ⟨z, 2, none⟩ = some (.slice I2 l1.length J2) ∧ w'.cell? ⟨z, 3, none⟩ = some (.int .i64 m1) ∧ w'.cell? ⟨z, 4, none⟩ = some (.int .i64 n1) ∧ w'.cell? ⟨z, 5, none⟩ = some (.int .i64 o1)) (ds := []) (bl 13 0) (by kernel_rfl) rfl (by kernel_rfl) ⟨zy a 0, zy a 1, zy a 2, zy a 3, zy a 4, zy a 5, zy a 6, zy a 7, zy a 8, zy a 9, zy a 10, zy q 0, zy q 1, zy q 2, zy q 3, zy q 4, zy q 5⟩ (fun hHeld => ?_); refine with_tabW laws_FnExactStepOpt.tab7 laws_FnExactStepOpt.bits7 (fun HT_ HW_ => ?_)
   generalize w27.drew = w28 at a q HB hHeld ⊢
   refine zP 4 32 (bl 13 16) HT_ ?_
   refine zT 0 28 (bl 13 17) rfl rfl HT_ HW_ hHeld (by rintro w' ⟨s0, s1, s2, s3, s4, s5, s6, s7, s8, s9, x9, y9, s12, s13, s14, s15, s16⟩; go_simp; with_reducible rfl) ?_
   refine zT 2 30 (bl 13 21) rfl rfl HT_ HW_ hHeld (by rintro w' ⟨s0, s1, s2, s3, s4, s5, s6, s7, s8, s9, x9, y9, s12, s13, s14, s15, s16⟩; go_simp; with_reducible rfl) ?_
   refine join_ (σ := Value × Value × Value × Value × Value × Value × Value × Nat) 2 (bl 13 2047) (fun s_ => [(29, .agg #[.int .i64 O6, .int .i64 R6, .int .i64 S6, .int .i64 T6, .int .i64 U6, .int .i64 V6, .int .i64 X6, .int .i64 a7, .int .i64 b7, .int .i64 d7, .int .i64 e7]), (31, .agg #[s_.1, s_.2.1, s_.2.2.1, .int .i64 N7, .int .i64 O7, .int .i64 R7]), (33, s_.2.2.2.1), (34, .tuple #[.agg #[s_.2.2.2.2.1, s_.2.2.2.2.2.1, s_.2.2.2.2.2.2.1, .int .i64 c3, .int .i64 d3, .int .i64 e3], .bool i4]), (8, .pointer (some ⟨s_.2.2.2.2.2.2.2, 0, none⟩)), (27, .tuple #[.agg #[s_.2.2.2.2.1, s_.2.2.2.2.2.1, s_.2.2.2.2.2.2.1, .int .i64 c3, .int .i64 d3, .int .i64 e3], .bool i4]), (35, .agg #[s_.2.2.2.2.1, s_.2.2.2.2.2.1, s_.2.2.2.2.2.2.1, .int .i64 c3, .int .i64 d3, .int .i64 e3]), (36, .bool i4)]) (fun s_ w' => (w'.cell? ⟨l, 0, none⟩ = some (.int .i64 p1) ∧ w'.cell? ⟨l, 1, none⟩ = some (.int .i64 q1) ∧ w'.cell? ⟨l, 2, none⟩ = some (.int .i64 t1) ∧ w'.cell? ⟨l, 3, none⟩ = some (.int .i64 x1) ∧ w'.cell? ⟨l, 4, none⟩ = some (.int .i64 y1) ∧ w'.cell? ⟨l, 5, none⟩ = some (.int .i64 A1) ∧ w'.cell? ⟨l, 6, none⟩ = some (.int .i64 B1) ∧ w'.cell? ⟨l, 7, none⟩ = some (.int .i64 C1) ∧ w'.cell? ⟨l, 8, none⟩ = some (.int .i64 D1) ∧ w'.cell? ⟨l, 9, none⟩ = some (.int .i64 E1) ∧ w'.cell? ⟨l, 10, none⟩ = some (.int .i64 S0) ∧ w'.cell? ⟨z, 0, none⟩ = some (.slice D2 g1.length E2) ∧ w'.cell? ⟨z, 1, none⟩ = some (.slice F2 i1.length G2) ∧ w'.cell? ⟨z, 2, none⟩ = some (.slice I2 l1.length J2) ∧ w'.cell? ⟨z, 3, none⟩ = some (.int .i64 m1) ∧ w'.cell? ⟨z, 4, none⟩ = some (.int .i64 n1) ∧ w'.cell? ⟨z, 5, none⟩ = some (.int .i64 o1)) ∧ (Kd.R (Kd.int .i64) 3 w' w.heap.size (fun k_ => zo s_.2.1 k_ ∧ zo s_.2.2.1 k_ ∧ zo s_.2.2.2.1 k_ ∧ zo s_.2.2.2.2.1 k_ ∧ zo s_.2.2.2.2.2.1 k_ ∧ zo s_.2.2.2.2.2.2.1 k_) s_.1 c6) ∧ (Kd.R (Kd.int .i64) 3 w' w.heap.size (fun k_ => zo s_.1 k_ ∧ zo s_.2.2.1 k_ ∧ zo s_.2.2.2.1 k_ ∧ zo s_.2.2.2.2.1 k_ ∧ zo s_.2.2.2.2.2.1 k_ ∧ zo s_.2.2.2.2.2.2.1 k_) s_.2.1 d6) ∧ (Kd.R (Kd.int .i64) 3 w' w.heap.size (fun k_ => zo s_.1 k_ ∧ zo s_.2.1 k_ ∧ zo s_.2.2.2.1 k_ ∧ zo s_.2.2.2.2.1 k_ ∧ zo s_.2.2.2.2.2.1 k_ ∧ zo s_.2.2.2.2.2.2.1 k_) s_.2.2.1 e6) ∧ (Kd.R (Kd.int .i64) 3 w' w.heap.size (fun k_ => zo s_.1 k_ ∧ zo s_.2.1 k_ ∧ zo s_.2.2.1 k_ ∧ zo s_.2.2.2.2.1 k_ ∧ zo s_.2.2.2.2.2.1 k_ ∧ zo s_.2.2.2.2.2.2.1 k_) s_.2.2.2.1 b6) ∧ (Kd.R (Kd.int .i64) 3 w' w.heap.size (fun k_ => zo s_.1 k_ ∧ zo s_.2.1 k_ ∧ zo s_.2.2.1 k_ ∧ zo s_.2.2.2.1 k_ ∧ zo s_.2.2.2.2.2.1 k_ ∧ zo s_.2.2.2.2.2.2.1 k_) s_.2.2.2.2.1 u) ∧ (Kd.R (Kd.int .i64) 3 w' w.heap.size (fun k_ => zo s_.1 k_ ∧ zo s_.2.1 k_ ∧ zo s_.2.2.1 k_ ∧ zo s_.2.2.2.1 k_ ∧ zo s_.2.2.2.2.1 k_ ∧ zo s_.2.2.2.2.2.2.1 k_) s_.2.2.2.2.2.1 x) ∧ (Kd.R (Kd.int .i64) 3 w' w.heap.size (fun k_ => zo s_.1 k_ ∧ zo s_.2.1 k_ ∧ zo s_.2.2.1 k_ ∧ zo s_.2.2.2.1 k_ ∧ zo s_.2.2.2.2.1 k_ ∧ zo s_.2.2.2.2.2.1 k_) s_.2.2.2.2.2.2.1 y) ∧ (w'.heap[l]? = some (.cells #[.int .i64 p1, .int .i64 q1, .int .i64 t1, .int .i64 x1, .int .i64 y1, .int .i64 A1, .int .i64 B1, .int .i64 C1, .int .i64 D1, .int .i64 E1, .int .i64 S0] 25 (0, 0))) ∧ (w'.heap[z]? = some (.cells #[.slice D2 g1.length E2, .slice F2 i1.length G2, .slice I2 l1.length J2, .int .i64 m1, .int .i64 n1, .int .i64 o1] 28 (0, 0))) ∧ (w'.heap[s_.2.2.2.2.2.2.2]? = some (.cells #[.slice none 0 0, .slice none 0 0, .slice none 0 0, .int .i64 0, .int .i64 0, .int .i64 0] 30 (0, 0))) ∧ (w.heap.size ≤ s_.2.2.2.2.2.2.2) ∧ (w.heap.size ≤ s_.2.2.2.2.2.2.2) ∧ (l ≠ s_.2.2.2.2.2.2.2) ∧ (s_.2.2.2.2.2.2.2 ≠ l) ∧ (z ≠ s_.2.2.2.2.2.2.2) ∧ (s_.2.2.2.2.2.2.2 ≠ z) ∧ (Below w.heap.size w w')) ?_ ?_
   rotate_left
   · as_aux_lemma =>
     intro hJ1_3_5_6_10
     refine join_ (σ := Value × Value × Value × Value × Value × Value × Value) 3 (bl 13 1023) (fun s_ => [(29, .agg #[.int .i64 O6, .int .i64 R6, .int .i64 S6, .int .i64 T6, .int .i64 U6, .int .i64 V6, .int .i64 X6, .int .i64 a7, .int .i64 b7, .int .i64 d7, .int .i64 e7]), (31, .agg #[s_.1, s_.2.1, s_.2.2.1, .int .i64 N7, .int .i64 O7, .int .i64 R7]), (33, s_.2.2.2.1), (34, .tuple #[.agg #[s_.2.2.2.2.1, s_.2.2.2.2.2.1, s_.2.2.2.2.2.2, .int .i64 c3, .int .i64 d3, .int .i64 e3], .bool i4]), (27, .tuple #[.agg #[s_.2.2.2.2.1, s_.2.2.2.2.2.1, s_.2.2.2.2.2.2, .int .i64 c3, .int .i64 d3, .int .i64 e3], .bool i4]), (35, .agg #[s_.2.2.2.2.1, s_.2.2.2.2.2.1, s_.2.2.2.2.2.2, .int .i64 c3, .int .i64 d3, .int .i64 e3]), (36, .bool i4)]) (fun s_ w' => (w'.cell? ⟨l, 0, none⟩ = some (.int .i64 p1) ∧ w'.cell? ⟨l, 1, none⟩ = some (.int .i64 q1) ∧ w'.cell? ⟨l, 2, none⟩ = some (.int .i64 t1) ∧ w'.cell? ⟨l, 3, none⟩ = some (.int .i64 x1) ∧ w'.cell? ⟨l, 4, none⟩ = some (.int .i64 y1) ∧ w'.cell? ⟨l, 5, none⟩ = some (.int .i64 A1) ∧ w'.cell? ⟨l, 6, none⟩ = some (.int .i64 B1) ∧ w'.cell? ⟨l, 7, none⟩ = some (.int .i64 C1) ∧ w'.cell? ⟨l, 8, none⟩ = some (.int .i64 D1) ∧ w'.cell? ⟨l, 9, none⟩ = some (.int .i64 E1) ∧ w'.cell? ⟨l, 10, none⟩ = some (.int .i64 S0) ∧ w'.cell? ⟨z, 0, none⟩ = some (.slice D2 g1.length E2) ∧ w'.cell? ⟨z, 1, none⟩ = some (.slice F2 i1.length G2) ∧ w'.cell? ⟨z, 2, none⟩ = some (.slice I2 l1.length J2) ∧ w'.cell? ⟨z, 3, none⟩ = some (.int .i64 m1) ∧ w'.cell? ⟨z, 4, none⟩ = some (.int .i64 n1) ∧ w'.cell? ⟨z, 5, none⟩ = some (.int .i64 o1)) ∧ (Kd.R (Kd.int .i64) 3 w' w.heap.size (fun k_ => zo s_.2.1 k_ ∧ zo s_.2.2.1 k_ ∧ zo s_.2.2.2.1 k_ ∧ zo s_.2.2.2.2.1 k_ ∧ zo s_.2.2.2.2.2.1 k_ ∧ zo s_.2.2.2.2.2.2 k_) s_.1 c6) ∧ (Kd.R (Kd.int .i64) 3 w' w.heap.size (fun k_ => zo s_.1 k_ ∧ zo s_.2.2.1 k_ ∧ zo s_.2.2.2.1 k_ ∧ zo s_.2.2.2.2.1 k_ ∧ zo s_.2.2.2.2.2.1 k_ ∧ zo s_.2.2.2.2.2.2 k_) s_.2.1 d6) ∧ (Kd.R (Kd.int .i64) 3 w' w.heap.size (fun k_ => zo s_.1 k_ ∧ zo s_.2.1 k_ ∧ zo s_.2.2.2.1 k_ ∧ zo s_.2.2.2.2.1 k_ ∧ zo s_.2.2.2.2.2.1 k_ ∧ zo s_.2.2.2.2.2.2 k_) s_.2.2.1 e6) ∧ (Kd.R (Kd.int .i64) 3 w' w.heap.size (fun k_ => zo s_.1 k_ ∧ zo s_.2.1 k_ ∧ zo s_.2.2.1 k_ ∧ zo s_.2.2.2.2.1 k_ ∧ zo s_.2.2.2.2.2.1 k_ ∧ zo s_.2.2.2.2.2.2 k_) s_.2.2.2.1 b6) ∧ (Kd.R (Kd.int .i64) 3 w' w.heap.size (fun k_ => zo s_.1 k_ ∧ zo s_.2.1 k_ ∧ zo s_.2.2.1 k_ ∧ zo s_.2.2.2.1 k_ ∧ zo s_.2.2.2.2.2.1 k_ ∧ zo s_.2.2.2.2.2.2 k_) s_.2.2.2.2.1 u) ∧ (Kd.R (Kd.int .i64) 3 w' w.heap.size (fun k_ => zo s_.1 k_ ∧ zo s_.2.1 k_ ∧ zo s_.2.2.1 k_ ∧ zo s_.2.2.2.1 k_ ∧ zo s_.2.2.2.2.1 k_ ∧ zo s_.2.2.2.2.2.2 k_) s_.2.2.2.2.2.1 x) ∧ (Kd.R (Kd.int .i64) 3 w' w.heap.size (fun k_ => zo s_.1 k_ ∧ zo s_.2.1 k_ ∧ zo s_.2.2.1 k_ ∧ zo s_.2.2.2.1 k_ ∧ zo s_.2.2.2.2.1 k_ ∧ zo s_.2.2.2.2.2.1 k_) s_.2.2.2.2.2.2 y) ∧ (w'.heap[l]? = some (.cells #[.int .i64 p1, .int .i64 q1, .int .i64 t1, .int .i64 x1, .int .i64 y1, .int .i64 A1, .int .i64 B1, .int .i64 C1, .int .i64 D1, .int .i64 E1, .int .i64 S0] 25 (0, 0))) ∧ (w'.heap[z]? = some (.cells #[.slice D2 g1.length E2, .slice F2 i1.length G2, .slice I2 l1.length J2, .int .i64 m1, .int .i64 n1, .int .i64 o1] 28 (0, 0))) ∧ (Below w.heap.size w w')) ?_ ?_
     rotate_left
     · as_aux_lemma =>
       intro hJ1_3_5_6
       refine join_ (σ := Value × Value × Value × Value × Nat) 6 (bl 13 1087) (fun s_ => [(29, .agg #[.int .i64 O6, .int .i64 R6, .int .i64 S6, .int .i64 T6, .int .i64 U6, .int .i64 V6, .int .i64 X6, .int .i64 a7, .int .i64 b7, .int .i64 d7, .int .i64 e7]), (31, .agg #[s_.1, s_.2.1, s_.2.2.1, .int .i64 N7, .int .i64 O7, .int .i64 R7]), (33, s_.2.2.2.1), (8, .pointer (some ⟨s_.2.2.2.2, 0, none⟩))]) (fun s_ w' => (w'.cell? ⟨l, 0, none⟩ = some (.int .i64 p1) ∧ w'.cell? ⟨l, 1, none⟩ = some (.int .i64 q1) ∧ w'.cell? ⟨l, 2, none⟩ = some (.int .i64 t1) ∧ w'.cell? ⟨l, 3, none⟩ = some (.int .i64 x1) ∧ w'.cell? ⟨l, 4, none⟩ = some (.int .i64 y1) ∧ w'.cell? ⟨l, 5, none⟩ = some (.int .i64 A1) ∧ w'.cell? ⟨l, 6, none⟩ = some (.int .i64 B1) ∧ w'.cell? ⟨l, 7, none⟩ = some (.int .i64 C1) ∧ w'.cell? ⟨l, 8, none⟩ = some (.int .i64 D1) ∧ w'.cell? ⟨l, 9, none⟩ = some (.int .i64 E1) ∧ w'.cell? ⟨l, 10, none⟩ = some (.int .i64 S0) ∧ w'.cell? ⟨z, 0, none⟩ = some (.slice D2 g1.length E2) ∧ w'.cell? ⟨z, 1, none⟩ = some (.slice F2 i1.length G2) ∧ w'.cell? ⟨z, 2, none⟩ = some (.slice I2 l1.length J2) ∧ w'.cell? ⟨z, 3, none⟩ = some (.int .i64 m1) ∧ w'.cell? ⟨z, 4, none⟩ = some (.int .i64 n1) ∧ w'.cell? ⟨z, 5, none⟩ = some (.int .i64 o1)) ∧ (Kd.R (Kd.int .i64) 3 w' w.heap.size (fun k_ => zo s_.2.1 k_ ∧ zo s_.2.2.1 k_ ∧ zo s_.2.2.2.1 k_) s_.1 c6) ∧ (Kd.R (Kd.int .i64) 3 w' w.heap.size (fun k_ => zo s_.1 k_ ∧ zo s_.2.2.1 k_ ∧ zo s_.2.2.2.1 k_) s_.2.1 d6) ∧ (Kd.R (Kd.int .i64) 3 w' w.heap.size (fun k_ => zo s_.1 k_ ∧ zo s_.2.1 k_ ∧ zo s_.2.2.2.1 k_) s_.2.2.1 e6) ∧ (Kd.R (Kd.int .i64) 3 w' w.heap.size (fun k_ => zo s_.1 k_ ∧ zo s_.2.1 k_ ∧ zo s_.2.2.1 k_) s_.2.2.2.1 b6) ∧ (w'.heap[l]? = some (.cells #[.int .i64 p1, .int .i64 q1, .int .i64 t1, .int .i64 x1, .int .i64 y1, .int .i64 A1, .int .i64 B1, .int .i64 C1, .int .i64 D1, .int .i64 E1, .int .i64 S0] 25 (0, 0))) ∧ (w'.heap[z]? = some (.cells #[.slice D2 g1.length E2, .slice F2 i1.length G2, .slice I2 l1.length J2, .int .i64 m1, .int .i64 n1, .int .i64 o1] 28 (0, 0))) ∧ (w'.heap[s_.2.2.2.2]? = some (.cells #[.slice none 0 0, .slice none 0 0, .slice none 0 0, .int .i64 0, .int .i64 0, .int .i64 0] 30 (0, 0))) ∧ (w.heap.size ≤ s_.2.2.2.2) ∧ (w.heap.size ≤ s_.2.2.2.2) ∧ (l ≠ s_.2.2.2.2) ∧ (s_.2.2.2.2 ≠ l) ∧ (z ≠ s_.2.2.2.2) ∧ (s_.2.2.2.2 ≠ z) ∧ (Below w.heap.size w w')) ?_ ?_
       rotate_left
       · as_aux_lemma =>
         intro hJ1_3_5_10
         refine join_ (σ := Value × Value × Value × Value) 7 (bl 13 63) (fun s_ => [(29, .agg #[.int .i64 O6, .int .i64 R6, .int .i64 S6, .int .i64 T6, .int .i64 U6, .int .i64 V6, .int .i64 X6, .int .i64 a7, .int .i64 b7, .int .i64 d7, .int .i64 e7]), (31, .agg #[s_.1, s_.2.1, s_.2.2.1, .int .i64 N7, .int .i64 O7, .int .i64 R7]), (33, s_.2.2.2)]) (fun s_ w' => (w'.cell? ⟨l, 0, none⟩ = some (.int .i64 p1) ∧ w'.cell? ⟨l, 1, none⟩ = some (.int .i64 q1) ∧ w'.cell? ⟨l, 2, none⟩ = some (.int .i64 t1) ∧ w'.cell? ⟨l, 3, none⟩ = some (.int .i64 x1) ∧ w'.cell? ⟨l, 4, none⟩ = some (.int .i64 y1) ∧ w'.cell? ⟨l, 5, none⟩ = some (.int .i64 A1) ∧ w'.cell? ⟨l, 6, none⟩ = some (.int .i64 B1) ∧ w'.cell? ⟨l, 7, none⟩ = some (.int .i64 C1) ∧ w'.cell? ⟨l, 8, none⟩ = some (.int .i64 D1) ∧ w'.cell? ⟨l, 9, none⟩ = some (.int .i64 E1) ∧ w'.cell? ⟨l, 10, none⟩ = some (.int .i64 S0) ∧ w'.cell? ⟨z, 0, none⟩ = some (.slice D2 g1.length E2) ∧ w'.cell? ⟨z, 1, none⟩ = some (.slice F2 i1.length G2) ∧ w'.cell? ⟨z, 2, none⟩ = some (.slice I2 l1.length J2) ∧ w'.cell? ⟨z, 3, none⟩ = some (.int .i64 m1) ∧ w'.cell? ⟨z, 4, none⟩ = some (.int .i64 n1) ∧ w'.cell? ⟨z, 5, none⟩ = some (.int .i64 o1)) ∧ (Kd.R (Kd.int .i64) 3 w' w.heap.size (fun k_ => zo s_.2.1 k_ ∧ zo s_.2.2.1 k_ ∧ zo s_.2.2.2 k_) s_.1 c6) ∧ (Kd.R (Kd.int .i64) 3 w' w.heap.size (fun k_ => zo s_.1 k_ ∧ zo s_.2.2.1 k_ ∧ zo s_.2.2.2 k_) s_.2.1 d6) ∧ (Kd.R (Kd.int .i64) 3 w' w.heap.size (fun k_ => zo s_.1 k_ ∧ zo s_.2.1 k_ ∧ zo s_.2.2.2 k_) s_.2.2.1 e6) ∧ (Kd.R (Kd.int .i64) 3 w' w.heap.size (fun k_ => zo s_.1 k_ ∧ zo s_.2.1 k_ ∧ zo s_.2.2.1 k_) s_.2.2.2 b6) ∧ (w'.heap[l]? = some (.cells #[.int .i64 p1, .int .i64 q1, .int .i64 t1, .int .i64 x1, .int .i64 y1, .int .i64 A1, .int .i64 B1, .int .i64 C1, .int .i64 D1, .int .i64 E1, .int .i64 S0] 25 (0, 0))) ∧ (w'.heap[z]? = some (.cells #[.slice D2 g1.length E2, .slice F2 i1.length G2, .slice I2 l1.length J2, .int .i64 m1, .int .i64 n1, .int .i64 o1] 28 (0, 0))) ∧ (Below w.heap.size w w')) ?_ ?_
         rotate_left
         · as_aux_lemma =>
           intro hJ1_3_5
           refine join_ (σ := Value × Value × Value × Nat) 7 (bl 13 1055) (fun s_ => [(29, .agg #[.int .i64 O6, .int .i64 R6, .int .i64 S6, .int .i64 T6, .int .i64 U6, .int .i64 V6, .int .i64 X6, .int .i64 a7, .int .i64 b7, .int .i64 d7, .int .i64 e7]), (31, .agg #[s_.1, s_.2.1, s_.2.2.1, .int .i64 N7, .int .i64 O7, .int .i64 R7]), (8, .pointer (some ⟨s_.2.2.2, 0, none⟩))]) (fun s_ w' => (w'.cell? ⟨l, 0, none⟩ = some (.int .i64 p1) ∧ w'.cell? ⟨l, 1, none⟩ = some (.int .i64 q1) ∧ w'.cell? ⟨l, 2, none⟩ = some (.int .i64 t1) ∧ w'.cell? ⟨l, 3, none⟩ = some (.int .i64 x1) ∧ w'.cell? ⟨l, 4, none⟩ = some (.int .i64 y1) ∧ w'.cell? ⟨l, 5, none⟩ = some (.int .i64 A1) ∧ w'.cell? ⟨l, 6, none⟩ = some (.int .i64 B1) ∧ w'.cell? ⟨l, 7, none⟩ = some (.int .i64 C1) ∧ w'.cell? ⟨l, 8, none⟩ = some (.int .i64 D1) ∧ w'.cell? ⟨l, 9, none⟩ = some (.int .i64 E1) ∧ w'.cell? ⟨l, 10, none⟩ = some (.int .i64 S0) ∧ w'.cell? ⟨z, 0, none⟩ = some (.slice D2 g1.length E2) ∧ w'.cell? ⟨z, 1, none⟩ = some (.slice F2 i1.length G2) ∧ w'.cell? ⟨z, 2, none⟩ = some (.slice I2 l1.length J2) ∧ w'.cell? ⟨z, 3, none⟩ = some (.int .i64 m1) ∧ w'.cell? ⟨z, 4, none⟩ = some (.int .i64 n1) ∧ w'.cell? ⟨z, 5, none⟩ = some (.int .i64 o1)) ∧ (Kd.R (Kd.int .i64) 3 w' w.heap.size (fun k_ => zo s_.2.1 k_ ∧ zo s_.2.2.1 k_) s_.1 c6) ∧ (Kd.R (Kd.int .i64) 3 w' w.heap.size (fun k_ => zo s_.1 k_ ∧ zo s_.2.2.1 k_) s_.2.1 d6) ∧ (Kd.R (Kd.int .i64) 3 w' w.heap.size (fun k_ => zo s_.1 k_ ∧ zo s_.2.1 k_) s_.2.2.1 e6) ∧ (w'.heap[l]? = some (.cells #[.int .i64 p1, .int .i64 q1, .int .i64 t1, .int .i64 x1, .int .i64 y1, .int .i64 A1, .int .i64 B1, .int .i64 C1, .int .i64 D1, .int .i64 E1, .int .i64 S0] 25 (0, 0))) ∧ (w'.heap[z]? = some (.cells #[.slice D2 g1.length E2, .slice F2 i1.length G2, .slice I2 l1.length J2, .int .i64 m1, .int .i64 n1, .int .i64 o1] 28 (0, 0))) ∧ (w'.heap[s_.2.2.2]? = some (.cells #[.slice none 0 0, .slice none 0 0, .slice none 0 0, .int .i64 0, .int .i64 0, .int .i64 0] 30 (0, 0))) ∧ (w.heap.size ≤ s_.2.2.2) ∧ (w.heap.size ≤ s_.2.2.2) ∧ (l ≠ s_.2.2.2) ∧ (s_.2.2.2 ≠ l) ∧ (z ≠ s_.2.2.2) ∧ (s_.2.2.2 ≠ z) ∧ (Below w.heap.size w w')) ?_ ?_
           rotate_left
           · as_aux_lemma =>
             intro hJ1_3_10
             refine join_ (σ := Value × Value × Value) 8 (bl 13 31) (fun s_ => [(29, .agg #[.int .i64 O6, .int .i64 R6, .int .i64 S6, .int .i64 T6, .int .i64 U6, .int .i64 V6, .int .i64 X6, .int .i64 a7, .int .i64 b7, .int .i64 d7, .int .i64 e7]), (31, .agg #[s_.1, s_.2.1, s_.2.2, .int .i64 N7, .int .i64 O7, .int .i64 R7])]) (fun s_ w' => (w'.cell? ⟨l, 0, none⟩ = some (.int .i64 p1) ∧ w'.cell? ⟨l, 1, none⟩ = some (.int .i64 q1) ∧ w'.cell? ⟨l, 2, none⟩ = some (.int .i64 t1) ∧ w'.cell? ⟨l, 3, none⟩ = some (.int .i64 x1) ∧ w'.cell? ⟨l, 4, none⟩ = some (.int .i64 y1) ∧ w'.cell? ⟨l, 5, none⟩ = some (.int .i64 A1) ∧ w'.cell? ⟨l, 6, none⟩ = some (.int .i64 B1) ∧ w'.cell? ⟨l, 7, none⟩ = some (.int .i64 C1) ∧ w'.cell? ⟨l, 8, none⟩ = some (.int .i64 D1) ∧ w'.cell? ⟨l, 9, none⟩ = some (.int .i64 E1) ∧ w'.cell? ⟨l, 10, none⟩ = some (.int .i64 S0) ∧ w'.cell? ⟨z, 0, none⟩ = some (.slice D2 g1.length E2) ∧ w'.cell? ⟨z, 1, none⟩ = some (.slice F2 i1.length G2) ∧ w'.cell? ⟨z, 2, none⟩ = some (.slice I2 l1.length J2) ∧ w'.cell? ⟨z, 3, none⟩ = some (.int .i64 m1) ∧ w'.cell? ⟨z, 4, none⟩ = some (.int .i64 n1) ∧ w'.cell? ⟨z, 5, none⟩ = some (.int .i64 o1)) ∧ (Kd.R (Kd.int .i64) 3 w' w.heap.size (fun k_ => zo s_.2.1 k_ ∧ zo s_.2.2 k_) s_.1 c6) ∧ (Kd.R (Kd.int .i64) 3 w' w.heap.size (fun k_ => zo s_.1 k_ ∧ zo s_.2.2 k_) s_.2.1 d6) ∧ (Kd.R (Kd.int .i64) 3 w' w.heap.size (fun k_ => zo s_.1 k_ ∧ zo s_.2.1 k_) s_.2.2 e6) ∧ (w'.heap[l]? = some (.cells #[.int .i64 p1, .int .i64 q1, .int .i64 t1, .int .i64 x1, .int .i64 y1, .int .i64 A1, .int .i64 B1, .int .i64 C1, .int .i64 D1, .int .i64 E1, .int .i64 S0] 25 (0, 0))) ∧ (w'.heap[z]? = some (.cells #[.slice D2 g1.length E2, .slice F2 i1.length G2, .slice I2 l1.length J2, .int .i64 m1, .int .i64 n1, .int .i64 o1] 28 (0, 0))) ∧ (Below w.heap.size w w')) ?_ ?_
             rotate_left
             · as_aux_lemma =>
               intro hJ1_3
               refine join_ (σ := Nat) 8 (bl 13 1047) (fun s_ => [(29, .agg #[.int .i64 O6, .int .i64 R6, .int .i64 S6, .int .i64 T6, .int .i64 U6, .int .i64 V6, .int .i64 X6, .int .i64 a7, .int .i64 b7, .int .i64 d7, .int .i64 e7]), (8, .pointer (some ⟨s_, 0, none⟩))]) (fun s_ w' => (w'.cell? ⟨l, 0, none⟩ = some (.int .i64 p1) ∧ w'.cell? ⟨l, 1, none⟩ = some (.int .i64 q1) ∧ w'.cell? ⟨l, 2, none⟩ = some (.int .i64 t1) ∧ w'.cell? ⟨l, 3, none⟩ = some (.int .i64 x1) ∧ w'.cell? ⟨l, 4, none⟩ = some (.int .i64 y1) ∧ w'.cell? ⟨l, 5, none⟩ = some (.int .i64 A1) ∧ w'.cell? ⟨l, 6, none⟩ = some (.int .i64 B1) ∧ w'.cell? ⟨l, 7, none⟩ = some (.int .i64 C1) ∧ w'.cell? ⟨l, 8, none⟩ = some (.int .i64 D1) ∧ w'.cell? ⟨l, 9, none⟩ = some (.int .i64 E1) ∧ w'.cell? ⟨l, 10, none⟩ = some (.int .i64 S0) ∧ w'.cell? ⟨z, 0, none⟩ = some (.slice D2 g1.length E2) ∧ w'.cell? ⟨z, 1, none⟩ = some (.slice F2 i1.length G2) ∧ w'.cell? ⟨z, 2, none⟩ = some (.slice I2 l1.length J2) ∧ w'.cell? ⟨z, 3, none⟩ = some (.int .i64 m1) ∧ w'.cell? ⟨z, 4, none⟩ = some (.int .i64 n1) ∧ w'.cell? ⟨z, 5, none⟩ = some (.int .i64 o1)) ∧ (w'.heap[l]? = some (.cells #[.int .i64 p1, .int .i64 q1, .int .i64 t1, .int .i64 x1, .int .i64 y1, .int .i64 A1, .int .i64 B1, .int .i64 C1, .int .i64 D1, .int .i64 E1, .int .i64 S0] 25 (0, 0))) ∧ (w'.heap[z]? = some (.cells #[.slice D2 g1.length E2, .slice F2 i1.length G2, .slice I2 l1.length J2, .int .i64 m1, .int .i64 n1, .int .i64 o1] 28 (0, 0))) ∧ (w'.heap[s_]? = some (.cells #[.slice none 0 0, .slice none 0 0, .slice none 0 0, .int .i64 0, .int .i64 0, .int .i64 0] 30 (0, 0))) ∧ (w.heap.size ≤ s_) ∧ (w.heap.size ≤ s_) ∧ (l ≠ s_) ∧ (s_ ≠ l) ∧ (z ≠ s_) ∧ (s_ ≠ z) ∧ (Below w.heap.size w w')) ?_ ?_
               rotate_left
               · as_aux_lemma =>
                 intro hJ1_10
                 refine join_ (σ := Unit) 9 (bl 13 23) (fun s_ => [(29, .agg #[.int .i64 O6, .int .i64 R6, .int .i64 S6, .int .i64 T6, .int .i64 U6, .int .i64 V6, .int .i64 X6, .int .i64 a7, .int .i64 b7, .int .i64 d7, .int .i64 e7])]) (fun s_ w' => (w'.cell? ⟨l, 0, none⟩ = some (.int .i64 p1) ∧ w'.cell? ⟨l, 1, none⟩ = some (.int .i64 q1) ∧ w'.cell? ⟨l, 2, none⟩ = some (.int .i64 t1) ∧ w'.cell? ⟨l, 3, none⟩ = some (.int .i64 x1) ∧ w'.cell? ⟨l, 4, none⟩ = some (.int .i64 y1) ∧ w'.cell? ⟨l, 5, none⟩ = some (.int .i64 A1) ∧ w'.cell? ⟨l, 6, none⟩ = some (.int .i64 B1) ∧ w'.cell? ⟨l, 7, none⟩ = some (.int .i64 C1) ∧ w'.cell? ⟨l, 8, none⟩ = some (.int .i64 D1) ∧ w'.cell? ⟨l, 9, none⟩ = some (.int .i64 E1) ∧ w'.cell? ⟨l, 10, none⟩ = some (.int .i64 S0) ∧ w'.cell? ⟨z, 0, none⟩ = some (.slice D2 g1.length E2) ∧ w'.cell? ⟨z, 1, none⟩ = some (.slice F2 i1.length G2) ∧ w'.cell? ⟨z, 2, none⟩ = some (.slice I2 l1.length J2) ∧ w'.cell? ⟨z, 3, none⟩ = some (.int .i64 m1) ∧ w'.cell? ⟨z, 4, none⟩ = some (.int .i64 n1) ∧ w'.cell? ⟨z, 5, none⟩ = some (.int .i64 o1)) ∧ (w'.heap[l]? = some (.cells #[.int .i64 p1, .int .i64 q1, .int .i64 t1, .int .i64 x1, .int .i64 y1, .int .i64 A1, .int .i64 B1, .int .i64 C1, .int .i64 D1, .int .i64 E1, .int .i64 S0] 25 (0, 0))) ∧ (w'.heap[z]? = some (.cells #[.slice D2 g1.length E2, .slice F2 i1.length G2, .slice I2 l1.length J2, .int .i64 m1, .int .i64 n1, .int .i64 o1] 28 (0, 0))) ∧ (Below w.heap.size w w')) ?_ ?_
                 rotate_left
                 · as_aux_lemma =>
                   intro hJ1
                   refine join_ (σ := Nat) 9 (bl 13 1045) (fun s_ => [(8, .pointer (some ⟨s_, 0, none⟩))]) (fun s_ w' => (w'.cell? ⟨l, 0, none⟩ = some (.int .i64 p1) ∧ w'.cell? ⟨l, 1, none⟩ = some (.int .i64 q1) ∧ w'.cell? ⟨l, 2, none⟩ = some (.int .i64 t1) ∧ w'.cell? ⟨l, 3, none⟩ = some (.int .i64 x1) ∧ w'.cell? ⟨l, 4, none⟩ = some (.int .i64 y1) ∧ w'.cell? ⟨l, 5, none⟩ = some (.int .i64 A1) ∧ w'.cell? ⟨l, 6, none⟩ = some (.int .i64 B1) ∧ w'.cell? ⟨l, 7, none⟩ = some (.int .i64 C1) ∧ w'.cell? ⟨l, 8, none⟩ = some (.int .i64 D1) ∧ w'.cell? ⟨l, 9, none⟩ = some (.int .i64 E1) ∧ w'.cell? ⟨l, 10, none⟩ = some (.int .i64 S0) ∧ w'.cell? ⟨z, 0, none⟩ = some (.slice D2 g1.length E2) ∧ w'.cell? ⟨z, 1, none⟩ = some (.slice F2 i1.length G2) ∧ w'.cell? ⟨z, 2, none⟩ = some (.slice I2 l1.length J2) ∧ w'.cell? ⟨z, 3, none⟩ = some (.int .i64 m1) ∧ w'.cell? ⟨z, 4, none⟩ = some (.int .i64 n1) ∧ w'.cell? ⟨z, 5, none⟩ = some (.int .i64 o1)) ∧ (w'.heap[l]? = some (.cells #[.int .i64 p1, .int .i64 q1, .int .i64 t1, .int .i64 x1, .int .i64 y1, .int .i64 A1, .int .i64 B1, .int .i64 C1, .int .i64 D1, .int .i64 E1, .int .i64 S0] 25 (0, 0))) ∧ (w'.heap[z]? = some (.cells #[.slice D2 g1.length E2, .slice F2 i1.length G2, .slice I2 l1.length J2, .int .i64 m1, .int .i64 n1, .int .i64 o1] 28 (0, 0))) ∧ (w'.heap[s_]? = some (.cells #[.slice none 0 0, .slice none 0 0, .slice none 0 0, .int .i64 0, .int .i64 0, .int .i64 0] 30 (0, 0))) ∧ (w.heap.size ≤ s_) ∧ (w.heap.size ≤ s_) ∧ (l ≠ s_) ∧ (s_ ≠ l) ∧ (z ≠ s_) ∧ (s_ ≠ z) ∧ (Below w.heap.size w w')) ?_ ?_
                   rotate_left
                   · as_aux_lemma =>
                     intro hJ10
                     refine two_ (i := 1) (j := 10) (Ni := some 29) (Nj := some 8) (bl 13 23) (bl 13 1045) rfl rfl rfl rfl (two_of HT_.out (by kernel_rfl)) (by decide) (by decide) (fun K hK => ?_) (fun K hK => ?_)
                     · as_aux_lemma =>
                       skip
                       refine goes_ Try.func9 (by kernel_rfl) rfl #[.agg #[.int .i64 p1, .int .i64 q1, .int .i64 t1, .int .i64 x1, .int .i64 y1, .int .i64 A1, .int .i64 B1, .int .i64 C1, .int .i64 D1, .int .i64 E1, .int .i64 S0]] (by rfl) rfl rfl zL ?_
                       with_reducible refine (laws_toRule.calls p1 q1 t1 x1 y1 A1 B1 C1 D1 E1 S0 O6 R6 S6 T6 U6 V6 X6 a7 b7 d7 e7 _ A14.out).mono ?_
                       rintro e w29 ⟨rfl, hb⟩
                       refine ⟨_, rfl, ?_⟩
                       have R1 := z7 a hb
                       have S1 := z7 q hb
                       have T1 := z8 hb
                       revert R1 S1 T1
                       clear a q HB
                       intro a q HB
                       (try clear hb)
                       (try clear hb2)
                       (try clear hk)
                       (try clear hi)
                       refine hK.out _ _ ⟨zy a 0, zy a 1, zy a 2, zy a 3, zy a 4, zy a 5, zy a 6, zy a 7, zy a 8, zy a 9, zy a 10, zy q 0, zy q 1, zy q 2, zy q 3, zy q 4, zy q 5⟩ (fun hHeld => ?_)
                       clear hK K
                       refine zU 29 ?_
                       exact norm_ (by first | (simp only [putAll, Act.put, zq1, zq2, zq3]; done) | (simp only [putAll, Act.put, zq1, zq2, zq3]; rfl)) (hJ1 () _ ⟨hHeld, (zM a), (zM q), zB⟩)
                     · as_aux_lemma =>
                       skip
                       refine box_step ?hg (N := 8) ?hd (cs := #[.slice none 0 0, .slice none 0 0, .slice none 0 0, .int .i64 0, .int .i64 0, .int .i64 0]) (t := 30) ?hr ?_; (case hd => rfl); (case hg => rfl); (case hr => first | (go_simp; done) | (go_simp; rfl))
                       intro I0 hg w29 hbox hb
                       have R1 := z7 a hb
                       have S1 := z7 q hb
                       have T1 := z8 hb
                       have a2 := zK (hbox)
                       have b2 := z9 hg
                       have d2 := z9 hg
                       have i2 := zHH hg a
                       have m2 := zGG hg a
                       have t2 := zHH hg q
                       have x2 := zGG hg q
                       revert R1 S1 T1 a2 b2 d2 i2 m2 t2 x2
                       clear a q HB
                       intro a q HB n0 i6 T5 L0 n3 a1 m3
                       clear hb hbox hg
                       refine hK.out _ _ ⟨zy a 0, zy a 1, zy a 2, zy a 3, zy a 4, zy a 5, zy a 6, zy a 7, zy a 8, zy a 9, zy a 10, zy q 0, zy q 1, zy q 2, zy q 3, zy q 4, zy q 5⟩ (fun hHeld => ?_)
                       clear hK K
                       refine zU 8 ?_
                       exact norm_ (by first | (simp only [putAll, Act.put, zq1, zq2, zq3]; done) | (simp only [putAll, Act.put, zq1, zq2, zq3]; rfl)) (hJ10 (I0) _ ⟨hHeld, (zM a), (zM q), (zM n0), i6.out, T5.out, L0.out, n3.out, a1.out, m3.out, zB⟩)
                   · as_aux_lemma =>
                     skip
                     rintro I0 e5 ⟨hS_, a4, b4, d4, m4, n4, o4, F4, R4, S4, T4⟩
                     try dsimp only at hS_ a4 b4 d4 m4 n4 o4 F4 R4 S4 T4
                     have R1 := zK a4
                     have S1 := zK b4
                     have T1 := zK d4
                     have a2 := zK m4
                     have b2 := zK n4
                     have d2 := zK o4
                     have i2 := zK F4
                     have m2 := zK R4
                     have t2 := zK S4
                     have x2 := zK T4
                     clear a
                     clear q
                     clear HB
                     clear a4 b4 d4 m4 n4 o4 F4 R4 S4 T4
                     revert R1 S1 T1 a2 b2 d2 i2 m2 t2 x2
                     intro a q n0 i6 T5 L0 n3 a1 m3 HB
                     have hHeld := hS_
                     refine norm_ (a' := ?_) ?_ ?_
                     rotate_left
                     · simp only [putAll, Act.put, zq1, zq2, zq3]
                       rfl
                     refine one_ (i := 1) (N := some 29) (bl 13 1047) rfl rfl (one_of HT_.out (by kernel_rfl)) (by decide) (fun K hK => ?_)
                     refine goes_ Try.func9 (by kernel_rfl) rfl #[.agg #[.int .i64 p1, .int .i64 q1, .int .i64 t1, .int .i64 x1, .int .i64 y1, .int .i64 A1, .int .i64 B1, .int .i64 C1, .int .i64 D1, .int .i64 E1, .int .i64 S0]] (by rfl) rfl rfl zL ?_
                     with_reducible refine (laws_toRule.calls p1 q1 t1 x1 y1 A1 B1 C1 D1 E1 S0 O6 R6 S6 T6 U6 V6 X6 a7 b7 d7 e7 _ A14.out).mono ?_
                     rintro e O4 ⟨rfl, hb⟩
                     refine ⟨_, rfl, ?_⟩
                     have R1 := z7 a hb
                     have S1 := z7 q hb
                     have T1 := z7 n0 hb
                     have a2 := z8 hb
                     revert R1 S1 T1 a2
                     clear a q n0 HB
                     intro a q n0 HB
                     (try clear hb)
                     (try clear hb2)
                     (try clear hk)
                     (try clear hi)
                     refine hK.out _ _ ⟨zy a 0, zy a 1, zy a 2, zy a 3, zy a 4, zy a 5, zy a 6, zy a 7, zy a 8, zy a 9, zy a 10, zy q 0, zy q 1, zy q 2, zy q 3, zy q 4, zy q 5⟩ (fun hHeld => ?_)
                     clear hK K
                     refine zU 29 ?_
                     exact norm_ (by first | (simp only [putAll, Act.put, zq1, zq2, zq3]; done) | (simp only [putAll, Act.put, zq1, zq2, zq3]; rfl)) (hJ1_10 (I0) _ ⟨hHeld, (zM a), (zM q), (zM n0), i6.out, T5.out, L0.out, n3.out, a1.out, m3.out, zB⟩)
                 · as_aux_lemma =>
                   skip
                   rintro _ e5 ⟨hS_, a4, b4, d4⟩
                   try dsimp only at hS_ a4 b4 d4
                   have R1 := zK a4
                   have S1 := zK b4
                   have T1 := zK d4
                   clear a
                   clear q
                   clear HB
                   clear a4 b4 d4
                   revert R1 S1 T1
                   intro a q HB
                   have hHeld := hS_
                   refine norm_ (a' := ?_) ?_ ?_
                   rotate_left
                   · simp only [putAll, Act.put, zq1, zq2, zq3]
                     rfl
                   refine two_ (i := 3) (j := 10) (Ni := some 31) (Nj := some 8) (bl 13 31) (bl 13 1047) rfl rfl rfl rfl (two_of HT_.out (by kernel_rfl)) (by decide) (by decide) (fun K hK => ?_) (fun K hK => ?_)
                   · as_aux_lemma =>
                     skip
                     refine goes_ Try.func10 (by kernel_rfl) rfl #[.agg #[.slice D2 g1.length E2, .slice F2 i1.length G2, .slice I2 l1.length J2, .int .i64 m1, .int .i64 n1, .int .i64 o1]] (by rfl) rfl rfl zL ?_
                     refine (laws_toOpt.calls k _ _ g1 _ _ i1 _ _ l1 m1 n1 o1 c6 d6 e6 N7 O7 R7 _ (zS y8) A8.out (zS B8) C8.out (zS D8) E8.out A15.out).mono ?_
                     rintro e O4 ⟨v397, v400, v403, rfl, T0, e2, f2, hb⟩
                     refine ⟨_, rfl, ?_⟩
                     have R1 := zK (Kd.R_lower T0 (zz zB))
                     have S1 := zK (Kd.R_lower e2 (zz zB))
                     have T1 := zK (Kd.R_lower f2 (zz zB))
                     have a2 := z7 a hb
                     have b2 := z7 q hb
                     have d2 := z8 hb
                     revert R1 S1 T1 a2 b2 d2
                     clear a q HB
                     intro d1 e1 f1 a q HB
                     (try clear hb)
                     (try clear hb2)
                     (try clear hk)
                     (try clear hi)
                     (try clear T0)
                     (try clear e2)
                     (try clear f2)
                     refine hK.out _ _ ⟨zy a 0, zy a 1, zy a 2, zy a 3, zy a 4, zy a 5, zy a 6, zy a 7, zy a 8, zy a 9, zy a 10, zy q 0, zy q 1, zy q 2, zy q 3, zy q 4, zy q 5⟩ (fun hHeld => ?_)
                     clear hK K
                     refine zU 31 ?_
                     exact norm_ (by first | (simp only [putAll, Act.put, zq1, zq2, zq3]; done) | (simp only [putAll, Act.put, zq1, zq2, zq3]; rfl)) (hJ1_3 (v397, v400, v403) _ ⟨hHeld, (zkR d1), (zkR e1), (zkR f1), (zM a), (zM q), zB⟩)
                   · as_aux_lemma =>
                     skip
                     refine box_step ?hg (N := 8) ?hd (cs := #[.slice none 0 0, .slice none 0 0, .slice none 0 0, .int .i64 0, .int .i64 0, .int .i64 0]) (t := 30) ?hr ?_; (case hd => rfl); (case hg => rfl); (case hr => first | (go_simp; done) | (go_simp; rfl))
                     intro I0 hg O4 hbox hb
                     have R1 := z7 a hb
                     have S1 := z7 q hb
                     have T1 := z8 hb
                     have a2 := zK (hbox)
                     have b2 := z9 hg
                     have d2 := z9 hg
                     have i2 := zHH hg a
                     have m2 := zGG hg a
                     have t2 := zHH hg q
                     have x2 := zGG hg q
                     revert R1 S1 T1 a2 b2 d2 i2 m2 t2 x2
                     clear a q HB
                     intro a q HB n0 i6 T5 L0 n3 a1 m3
                     clear hb hbox hg
                     refine hK.out _ _ ⟨zy a 0, zy a 1, zy a 2, zy a 3, zy a 4, zy a 5, zy a 6, zy a 7, zy a 8, zy a 9, zy a 10, zy q 0, zy q 1, zy q 2, zy q 3, zy q 4, zy q 5⟩ (fun hHeld => ?_)
                     clear hK K
                     refine zU 8 ?_
                     exact norm_ (by first | (simp only [putAll, Act.put, zq1, zq2, zq3]; done) | (simp only [putAll, Act.put, zq1, zq2, zq3]; rfl)) (hJ1_10 (I0) _ ⟨hHeld, (zM a), (zM q), (zM n0), i6.out, T5.out, L0.out, n3.out, a1.out, m3.out, zB⟩)
               · as_aux_lemma =>
                 skip
                 rintro I0 O4 ⟨hS_, a4, b4, d4, m4, n4, o4, F4, R4, S4, T4⟩
                 try dsimp only at hS_ a4 b4 d4 m4 n4 o4 F4 R4 S4 T4
                 have R1 := zK a4
                 have S1 := zK b4
                 have T1 := zK d4
                 have a2 := zK m4
                 have b2 := zK n4
                 have d2 := zK o4
                 have i2 := zK F4
                 have m2 := zK R4
                 have t2 := zK S4
                 have x2 := zK T4
                 clear a
                 clear q
                 clear HB
                 clear a4 b4 d4 m4 n4 o4 F4 R4 S4 T4
                 revert R1 S1 T1 a2 b2 d2 i2 m2 t2 x2
                 intro a q n0 i6 T5 L0 n3 a1 m3 HB
                 have hHeld := hS_
                 refine norm_ (a' := ?_) ?_ ?_
                 rotate_left
                 · simp only [putAll, Act.put, zq1, zq2, zq3]
                   rfl
                 refine one_ (i := 3) (N := some 31) (bl 13 1055) rfl rfl (one_of HT_.out (by kernel_rfl)) (by decide) (fun K hK => ?_)
                 refine goes_ Try.func10 (by kernel_rfl) rfl #[.agg #[.slice D2 g1.length E2, .slice F2 i1.length G2, .slice I2 l1.length J2, .int .i64 m1, .int .i64 n1, .int .i64 o1]] (by rfl) rfl rfl zL ?_
                 refine (laws_toOpt.calls k _ _ g1 _ _ i1 _ _ l1 m1 n1 o1 c6 d6 e6 N7 O7 R7 _ (zS y8) A8.out (zS B8) C8.out (zS D8) E8.out A15.out).mono ?_
                 rintro e B4 ⟨v397, v400, v403, rfl, T0, e2, f2, hb⟩
                 refine ⟨_, rfl, ?_⟩
                 have R1 := zK (Kd.R_lower T0 (zz zB))
                 have S1 := zK (Kd.R_lower e2 (zz zB))
                 have T1 := zK (Kd.R_lower f2 (zz zB))
                 have a2 := z7 a hb
                 have b2 := z7 q hb
                 have d2 := z7 n0 hb
                 have i2 := z8 hb
                 revert R1 S1 T1 a2 b2 d2 i2
                 clear a q n0 HB
                 intro d1 e1 f1 a q n0 HB
                 (try clear hb)
                 (try clear hb2)
                 (try clear hk)
                 (try clear hi)
                 (try clear T0)
                 (try clear e2)
                 (try clear f2)
                 refine hK.out _ _ ⟨zy a 0, zy a 1, zy a 2, zy a 3, zy a 4, zy a 5, zy a 6, zy a 7, zy a 8, zy a 9, zy a 10, zy q 0, zy q 1, zy q 2, zy q 3, zy q 4, zy q 5⟩ (fun hHeld => ?_)
                 clear hK K
                 refine zU 31 ?_
                 exact norm_ (by first | (simp only [putAll, Act.put, zq1, zq2, zq3]; done) | (simp only [putAll, Act.put, zq1, zq2, zq3]; rfl)) (hJ1_3_10 (v397, v400, v403, I0) _ ⟨hHeld, (zkR d1), (zkR e1), (zkR f1), (zM a), (zM q), (zM n0), i6.out, T5.out, L0.out, n3.out, a1.out, m3.out, zB⟩)
             · as_aux_lemma =>
               skip
               rintro ⟨v397, v400, v403⟩ O4 ⟨hS_, a4, b4, d4, m4, n4, o4⟩
               try dsimp only at hS_ a4 b4 d4 m4 n4 o4
               have R1 := zK a4
               have S1 := zK b4
               have T1 := zK d4
               have a2 := zK m4
               have b2 := zK n4
               have d2 := zK o4
               clear a
               clear q
               clear HB
               clear a4 b4 d4 m4 n4 o4
               revert R1 S1 T1 a2 b2 d2
               intro d1 e1 f1 a q HB
               have hHeld := hS_
               refine norm_ (a' := ?_) ?_ ?_
               rotate_left
               · simp only [putAll, Act.put, zq1, zq2, zq3]
                 rfl
               refine two_ (i := 5) (j := 10) (Ni := some 33) (Nj := some 8) (bl 13 63) (bl 13 1055) rfl rfl rfl rfl (two_of HT_.out (by kernel_rfl)) (by decide) (by decide) (fun K hK => ?_) (fun K hK => ?_)
               · as_aux_lemma =>
                 skip
                 refine goes_ Try.func11 (by kernel_rfl) rfl #[.slice A2 l2.length c2] (by rfl) rfl rfl zL ?_
                 refine (laws_toIntS.calls k _ _ l2 b6 _ (zS U9) V9.out A16.out).mono ?_
                 rintro e B4 ⟨v409, rfl, T0, hb⟩
                 refine ⟨_, rfl, ?_⟩
                 have R1 := zK (Kd.R_elder' (zkR d1) (Kd.R_base T0) hb)
                 have S1 := zK (Kd.R_elder' (zkR e1) (Kd.R_base T0) hb)
                 have T1 := zK (Kd.R_elder' (zkR f1) (Kd.R_base T0) hb)
                 have a2 := zK (Kd.R_lower (Kd.R_new' (Kd.R_new' (Kd.R_new' T0 (Kd.R_lt (zkR d1))) (Kd.R_lt (zkR e1))) (Kd.R_lt (zkR f1))) (zz zB))
                 have b2 := z7 a hb
                 have d2 := z7 q hb
                 have i2 := z8 hb
                 revert R1 S1 T1 a2 b2 d2 i2
                 clear d1 e1 f1 a q HB
                 intro d1 e1 f1 I1 a q HB
                 (try clear hb)
                 (try clear hb2)
                 (try clear hk)
                 (try clear hi)
                 (try clear T0)
                 refine hK.out _ _ ⟨zy a 0, zy a 1, zy a 2, zy a 3, zy a 4, zy a 5, zy a 6, zy a 7, zy a 8, zy a 9, zy a 10, zy q 0, zy q 1, zy q 2, zy q 3, zy q 4, zy q 5⟩ (fun hHeld => ?_)
                 clear hK K
                 refine zU 33 ?_
                 exact norm_ (by first | (simp only [putAll, Act.put, zq1, zq2, zq3]; done) | (simp only [putAll, Act.put, zq1, zq2, zq3]; rfl)) (hJ1_3_5 (v397, v400, v403, v409) _ ⟨hHeld, (zkM (zlR d1.out)), (zkM (zlR e1.out)), (zkM (zlR f1.out)), (zkM (zlR I1.out)), (zM a), (zM q), zB⟩)
               · as_aux_lemma =>
                 skip
                 refine box_step ?hg (N := 8) ?hd (cs := #[.slice none 0 0, .slice none 0 0, .slice none 0 0, .int .i64 0, .int .i64 0, .int .i64 0]) (t := 30) ?hr ?_; (case hd => rfl); (case hg => rfl); (case hr => first | (go_simp; done) | (go_simp; rfl))
                 intro I0 hg B4 hbox hb
                 have R1 := zK (Kd.R_below (zkR d1) hb)
                 have S1 := zK (Kd.R_below (zkR e1) hb)
                 have T1 := zK (Kd.R_below (zkR f1) hb)
                 have a2 := z7 a hb
                 have b2 := z7 q hb
                 have d2 := z8 hb
                 have i2 := zK (hbox)
                 have m2 := z9 hg
                 have t2 := z9 hg
                 have x2 := zHH hg a
                 have O1 := zGG hg a
                 have U1 := zHH hg q
                 have V1 := zGG hg q
                 revert R1 S1 T1 a2 b2 d2 i2 m2 t2 x2 O1 U1 V1
                 clear d1 e1 f1 a q HB
                 intro d1 e1 f1 a q HB n0 i6 T5 L0 n3 a1 m3
                 clear hb hbox hg
                 refine hK.out _ _ ⟨zy a 0, zy a 1, zy a 2, zy a 3, zy a 4, zy a 5, zy a 6, zy a 7, zy a 8, zy a 9, zy a 10, zy q 0, zy q 1, zy q 2, zy q 3, zy q 4, zy q 5⟩ (fun hHeld => ?_)
                 clear hK K
                 refine zU 8 ?_
                 exact norm_ (by first | (simp only [putAll, Act.put, zq1, zq2, zq3]; done) | (simp only [putAll, Act.put, zq1, zq2, zq3]; rfl)) (hJ1_3_10 (v397, v400, v403, I0) _ ⟨hHeld, (zkR d1), (zkR e1), (zkR f1), (zM a), (zM q), (zM n0), i6.out, T5.out, L0.out, n3.out, a1.out, m3.out, zB⟩)
           · as_aux_lemma =>
             skip
             rintro ⟨v397, v400, v403, I0⟩ B4 ⟨hS_, a4, b4, d4, m4, n4, o4, F4, R4, S4, T4, C4, D4, E4⟩
             try dsimp only at hS_ a4 b4 d4 m4 n4 o4 F4 R4 S4 T4 C4 D4 E4
             have R1 := zK a4
             have S1 := zK b4
             have T1 := zK d4
             have a2 := zK m4
             have b2 := zK n4
             have d2 := zK o4
             have i2 := zK F4
             have m2 := zK R4
             have t2 := zK S4
             have x2 := zK T4
             have O1 := zK C4
             have U1 := zK D4
             have V1 := zK E4
             clear a
             clear q
             clear HB
             clear a4 b4 d4 m4 n4 o4 F4 R4 S4 T4 C4 D4 E4
             revert R1 S1 T1 a2 b2 d2 i2 m2 t2 x2 O1 U1 V1
             intro d1 e1 f1 a q n0 i6 T5 L0 n3 a1 m3 HB
             have hHeld := hS_
             refine norm_ (a' := ?_) ?_ ?_
             rotate_left
             · simp only [putAll, Act.put, zq1, zq2, zq3]
               rfl
             refine one_ (i := 5) (N := some 33) (bl 13 1087) rfl rfl (one_of HT_.out (by kernel_rfl)) (by decide) (fun K hK => ?_)
             refine goes_ Try.func11 (by kernel_rfl) rfl #[.slice A2 l2.length c2] (by rfl) rfl rfl zL ?_
             refine (laws_toIntS.calls k _ _ l2 b6 _ (zS U9) V9.out A16.out).mono ?_
             rintro e t6 ⟨v409, rfl, T0, hb⟩
             refine ⟨_, rfl, ?_⟩
             have R1 := zK (Kd.R_elder' (zkR d1) (Kd.R_base T0) hb)
             have S1 := zK (Kd.R_elder' (zkR e1) (Kd.R_base T0) hb)
             have T1 := zK (Kd.R_elder' (zkR f1) (Kd.R_base T0) hb)
             have a2 := zK (Kd.R_lower (Kd.R_new' (Kd.R_new' (Kd.R_new' T0 (Kd.R_lt (zkR d1))) (Kd.R_lt (zkR e1))) (Kd.R_lt (zkR f1))) (zz zB))
             have b2 := z7 a hb
             have d2 := z7 q hb
             have i2 := z7 n0 hb
             have m2 := z8 hb
             revert R1 S1 T1 a2 b2 d2 i2 m2
             clear d1 e1 f1 a q n0 HB
             intro d1 e1 f1 I1 a q n0 HB
             (try clear hb)
             (try clear hb2)
             (try clear hk)
             (try clear hi)
             (try clear T0)
             refine hK.out _ _ ⟨zy a 0, zy a 1, zy a 2, zy a 3, zy a 4, zy a 5, zy a 6, zy a 7, zy a 8, zy a 9, zy a 10, zy q 0, zy q 1, zy q 2, zy q 3, zy q 4, zy q 5⟩ (fun hHeld => ?_)
             clear hK K
             refine zU 33 ?_
             exact norm_ (by first | (simp only [putAll, Act.put, zq1, zq2, zq3]; done) | (simp only [putAll, Act.put, zq1, zq2, zq3]; rfl)) (hJ1_3_5_10 (v397, v400, v403, v409, I0) _ ⟨hHeld, (zkM (zlR d1.out)), (zkM (zlR e1.out)), (zkM (zlR f1.out)), (zkM (zlR I1.out)), (zM a), (zM q), (zM n0), i6.out, T5.out, L0.out, n3.out, a1.out, m3.out, zB⟩)
         · as_aux_lemma =>
           skip
           rintro ⟨v397, v400, v403, v409⟩ B4 ⟨hS_, a4, b4, d4, m4, n4, o4, F4⟩
           try dsimp only at hS_ a4 b4 d4 m4 n4 o4 F4
           have R1 := zK a4
           have S1 := zK b4
           have T1 := zK d4
           have a2 := zK m4
           have b2 := zK n4
           have d2 := zK o4
           have i2 := zK F4
           clear a
           clear q
           clear HB
           clear a4 b4 d4 m4 n4 o4 F4
           revert R1 S1 T1 a2 b2 d2 i2
           intro d1 e1 f1 I1 a q HB
           have hHeld := hS_
           obtain ⟨b2a, b2b, b2c⟩ := Kd.R_slice d1.out
           (first | subst b2c | (injection b2c with f1_ f2_ f3_; have f4_ := f1_.symm; have f5_ := f3_.symm; clear f1_ f2_ f3_; subst f4_; subst f5_))
           obtain ⟨A9, B9, C9⟩ := Kd.R_slice e1.out
           (first | subst C9 | (injection C9 with f1_ f2_ f3_; have f4_ := f1_.symm; have f5_ := f3_.symm; clear f1_ f2_ f3_; subst f4_; subst f5_))
           obtain ⟨D9, E9, F9⟩ := Kd.R_slice f1.out
           (first | subst F9 | (injection F9 with f1_ f2_ f3_; have f4_ := f1_.symm; have f5_ := f3_.symm; clear f1_ f2_ f3_; subst f4_; subst f5_))
           obtain ⟨G9, I9, J9⟩ := Kd.R_slice I1.out
           (first | subst J9 | (injection J9 with f1_ f2_ f3_; have f4_ := f1_.symm; have f5_ := f3_.symm; clear f1_ f2_ f3_; subst f4_; subst f5_))
           refine norm_ (a' := ?_) ?_ ?_
           rotate_left
           · simp only [putAll, Act.put, zq1, zq2, zq3]
             rfl
           refine two_ (i := 6) (j := 10) (Ni := some 34) (Nj := some 8) (bl 13 127) (bl 13 1087) rfl rfl rfl rfl (two_of HT_.out (by kernel_rfl)) (by decide) (by decide) (fun K hK => ?_) (fun K hK => ?_)
           · as_aux_lemma =>
             skip
             refine goes_ Try.func8 (by kernel_rfl) rfl #[.agg #[.int .i64 O6, .int .i64 R6, .int .i64 S6, .int .i64 T6, .int .i64 U6, .int .i64 V6, .int .i64 X6, .int .i64 a7, .int .i64 b7, .int .i64 d7, .int .i64 e7], .agg #[.slice b2a c6.length b2b, .slice A9 d6.length B9, .slice D9 e6.length E9, .int .i64 N7, .int .i64 O7, .int .i64 R7], .slice G9 b6.length I9] (by rfl) rfl rfl zL ?_
             refine (spec_StepOpt.calls k O6 R6 S6 T6 U6 V6 X6 a7 b7 d7 e7 _ _ c6 _ _ d6 _ _ e6 N7 O7 R7 _ _ b6 u x y c3 d3 e3 i4 _ (zC (Kd.R_reads' d1.out).2.2) ((Kd.R_reads' d1.out).2.1) (zC (Kd.R_reads' e1.out).2.2) ((Kd.R_reads' e1.out).2.1) (zC (Kd.R_reads' f1.out).2.2) ((Kd.R_reads' f1.out).2.1) (zC (Kd.R_reads' I1.out).2.2) ((Kd.R_reads' I1.out).2.1) A17.out).mono ?_
             rintro e q6 ⟨v412, v415, v418, rfl, T0, e2, f2, hb⟩
             refine ⟨_, rfl, ?_⟩
             have R1 := zK (Kd.R_mono (Kd.R_told (Kd.R_told (Kd.R_told (Kd.R_old (zkR d1) hb) (Kd.R_base T0)) (Kd.R_base e2)) (Kd.R_base f2)) (fun _ h_ => h_.1))
             have S1 := zK (Kd.R_mono (Kd.R_told (Kd.R_told (Kd.R_told (Kd.R_old (zkR e1) hb) (Kd.R_base T0)) (Kd.R_base e2)) (Kd.R_base f2)) (fun _ h_ => h_.1))
             have T1 := zK (Kd.R_mono (Kd.R_told (Kd.R_told (Kd.R_told (Kd.R_old (zkR f1) hb) (Kd.R_base T0)) (Kd.R_base e2)) (Kd.R_base f2)) (fun _ h_ => h_.1))
             have a2 := zK (Kd.R_mono (Kd.R_told (Kd.R_told (Kd.R_told (Kd.R_old (zkR I1) hb) (Kd.R_base T0)) (Kd.R_base e2)) (Kd.R_base f2)) (fun _ h_ => h_.1))
             have b2 := zK (Kd.R_lower (Kd.R_new' (Kd.R_new' (Kd.R_new' (Kd.R_new' T0 (Kd.R_lt (zkR d1))) (Kd.R_lt (zkR e1))) (Kd.R_lt (zkR f1))) (Kd.R_lt (zkR I1))) (zz zB))
             have d2 := zK (Kd.R_lower (Kd.R_new' (Kd.R_new' (Kd.R_new' (Kd.R_new' e2 (Kd.R_lt (zkR d1))) (Kd.R_lt (zkR e1))) (Kd.R_lt (zkR f1))) (Kd.R_lt (zkR I1))) (zz zB))
             have i2 := zK (Kd.R_lower (Kd.R_new' (Kd.R_new' (Kd.R_new' (Kd.R_new' f2 (Kd.R_lt (zkR d1))) (Kd.R_lt (zkR e1))) (Kd.R_lt (zkR f1))) (Kd.R_lt (zkR I1))) (zz zB))
             have m2 := z7 a hb
             have t2 := z7 q hb
             have x2 := z8 hb
             revert R1 S1 T1 a2 b2 d2 i2 m2 t2 x2
             clear d1 e1 f1 I1 a q HB
             intro d1 e1 f1 I1 n2 o2 q2 a q HB
             (try clear hb)
             (try clear hb2)
             (try clear hk)
             (try clear hi)
             (try clear T0)
             (try clear e2)
             (try clear f2)
             refine hK.out _ _ ⟨zy a 0, zy a 1, zy a 2, zy a 3, zy a 4, zy a 5, zy a 6, zy a 7, zy a 8, zy a 9, zy a 10, zy q 0, zy q 1, zy q 2, zy q 3, zy q 4, zy q 5⟩ (fun hHeld => ?_)
             clear hK K
             refine zU 34 ?_
             refine zP 7 27 (bl 13 255) HT_ ?_
             refine zP 8 35 (bl 13 511) HT_ ?_
             refine zP 9 36 (bl 13 1023) HT_ ?_
             exact norm_ (by first | (simp only [putAll, Act.put, zq1, zq2, zq3]; done) | (simp only [putAll, Act.put, zq1, zq2, zq3]; rfl)) (hJ1_3_5_6 (.slice b2a c6.length b2b, .slice A9 d6.length B9, .slice D9 e6.length E9, .slice G9 b6.length I9, v412, v415, v418) _ ⟨hHeld, (zkM (zlR d1.out)), (zkM (zlR e1.out)), (zkM (zlR f1.out)), (zkM (zlR I1.out)), (zkM (zlR n2.out)), (zkM (zlR o2.out)), (zkM (zlR q2.out)), (zM a), (zM q), zB⟩)
           · as_aux_lemma =>
             skip
             refine box_step ?hg (N := 8) ?hd (cs := #[.slice none 0 0, .slice none 0 0, .slice none 0 0, .int .i64 0, .int .i64 0, .int .i64 0]) (t := 30) ?hr ?_; (case hd => rfl); (case hg => rfl); (case hr => first | (go_simp; done) | (go_simp; rfl))
             intro I0 hg t6 hbox hb
             have R1 := zK (Kd.R_below (zkR d1) hb)
             have S1 := zK (Kd.R_below (zkR e1) hb)
             have T1 := zK (Kd.R_below (zkR f1) hb)
             have a2 := zK (Kd.R_below (zkR I1) hb)
             have b2 := z7 a hb
             have d2 := z7 q hb
             have i2 := z8 hb
             have m2 := zK (hbox)
             have t2 := z9 hg
             have x2 := z9 hg
             have O1 := zHH hg a
             have U1 := zGG hg a
             have V1 := zHH hg q
             have X1 := zGG hg q
             revert R1 S1 T1 a2 b2 d2 i2 m2 t2 x2 O1 U1 V1 X1
             clear d1 e1 f1 I1 a q HB
             intro d1 e1 f1 I1 a q HB n0 i6 T5 L0 n3 a1 m3
             clear hb hbox hg
             refine hK.out _ _ ⟨zy a 0, zy a 1, zy a 2, zy a 3, zy a 4, zy a 5, zy a 6, zy a 7, zy a 8, zy a 9, zy a 10, zy q 0, zy q 1, zy q 2, zy q 3, zy q 4, zy q 5⟩ (fun hHeld => ?_)
             clear hK K
             refine zU 8 ?_
             exact norm_ (by first | (simp only [putAll, Act.put, zq1, zq2, zq3]; done) | (simp only [putAll, Act.put, zq1, zq2, zq3]; rfl)) (hJ1_3_5_10 (.slice b2a c6.length b2b, .slice A9 d6.length B9, .slice D9 e6.length E9, .slice G9 b6.length I9, I0) _ ⟨hHeld, (zkR d1), (zkR e1), (zkR f1), (zkR I1), (zM a), (zM q), (zM n0), i6.out, T5.out, L0.out, n3.out, a1.out, m3.out, zB⟩)
       · as_aux_lemma =>
         skip
         rintro ⟨v397, v400, v403, v409, I0⟩ t6 ⟨hS_, a4, b4, d4, m4, n4, o4, F4, R4, S4, T4, C4, D4, E4, U4⟩
         try dsimp only at hS_ a4 b4 d4 m4 n4 o4 F4 R4 S4 T4 C4 D4 E4 U4
         have R1 := zK a4
         have S1 := zK b4
         have T1 := zK d4
         have a2 := zK m4
         have b2 := zK n4
         have d2 := zK o4
         have i2 := zK F4
         have m2 := zK R4
         have t2 := zK S4
         have x2 := zK T4
         have O1 := zK C4
         have U1 := zK D4
         have V1 := zK E4
         have X1 := zK U4
         clear a
         clear q
         clear HB
         clear a4 b4 d4 m4 n4 o4 F4 R4 S4 T4 C4 D4 E4 U4
         revert R1 S1 T1 a2 b2 d2 i2 m2 t2 x2 O1 U1 V1 X1
         intro d1 e1 f1 I1 a q n0 i6 T5 L0 n3 a1 m3 HB
         have hHeld := hS_
         obtain ⟨A9, B9, C9⟩ := Kd.R_slice d1.out
         (first | subst C9 | (injection C9 with f1_ f2_ f3_; have f4_ := f1_.symm; have f5_ := f3_.symm; clear f1_ f2_ f3_; subst f4_; subst f5_))
         obtain ⟨D9, E9, F9⟩ := Kd.R_slice e1.out
         (first | subst F9 | (injection F9 with f1_ f2_ f3_; have f4_ := f1_.symm; have f5_ := f3_.symm; clear f1_ f2_ f3_; subst f4_; subst f5_))
         obtain ⟨G9, I9, J9⟩ := Kd.R_slice f1.out
         (first | subst J9 | (injection J9 with f1_ f2_ f3_; have f4_ := f1_.symm; have f5_ := f3_.symm; clear f1_ f2_ f3_; subst f4_; subst f5_))
         obtain ⟨b2d, b2e, b2f⟩ := Kd.R_slice I1.out
         (first | subst b2f | (injection b2f with f1_ f2_ f3_; have f4_ := f1_.symm; have f5_ := f3_.symm; clear f1_ f2_ f3_; subst f4_; subst f5_))
         refine norm_ (a' := ?_) ?_ ?_
         rotate_left
         · simp only [putAll, Act.put, zq1, zq2, zq3]
           rfl
         refine one_ (i := 6) (N := some 34) (bl 13 1151) rfl rfl (one_of HT_.out (by kernel_rfl)) (by decide) (fun K hK => ?_)
         refine goes_ Try.func8 (by kernel_rfl) rfl #[.agg #[.int .i64 O6, .int .i64 R6, .int .i64 S6, .int .i64 T6, .int .i64 U6, .int .i64 V6, .int .i64 X6, .int .i64 a7, .int .i64 b7, .int .i64 d7, .int .i64 e7], .agg #[.slice A9 c6.length B9, .slice D9 d6.length E9, .slice G9 e6.length I9, .int .i64 N7, .int .i64 O7, .int .i64 R7], .slice b2d b6.length b2e] (by rfl) rfl rfl zL ?_
         refine (spec_StepOpt.calls k O6 R6 S6 T6 U6 V6 X6 a7 b7 d7 e7 _ _ c6 _ _ d6 _ _ e6 N7 O7 R7 _ _ b6 u x y c3 d3 e3 i4 _ (zC (Kd.R_reads' d1.out).2.2) ((Kd.R_reads' d1.out).2.1) (zC (Kd.R_reads' e1.out).2.2) ((Kd.R_reads' e1.out).2.1) (zC (Kd.R_reads' f1.out).2.2) ((Kd.R_reads' f1.out).2.1) (zC (Kd.R_reads' I1.out).2.2) ((Kd.R_reads' I1.out).2.1) A17.out).mono ?_
         rintro e S5 ⟨v412, v415, v418, rfl, T0, e2, f2, hb⟩
         refine ⟨_, rfl, ?_⟩
         have R1 := zK (Kd.R_mono (Kd.R_told (Kd.R_told (Kd.R_told (Kd.R_old (zkR d1) hb) (Kd.R_base T0)) (Kd.R_base e2)) (Kd.R_base f2)) (fun _ h_ => h_.1))
         have S1 := zK (Kd.R_mono (Kd.R_told (Kd.R_told (Kd.R_told (Kd.R_old (zkR e1) hb) (Kd.R_base T0)) (Kd.R_base e2)) (Kd.R_base f2)) (fun _ h_ => h_.1))
         have T1 := zK (Kd.R_mono (Kd.R_told (Kd.R_told (Kd.R_told (Kd.R_old (zkR f1) hb) (Kd.R_base T0)) (Kd.R_base e2)) (Kd.R_base f2)) (fun _ h_ => h_.1))
         have a2 := zK (Kd.R_mono (Kd.R_told (Kd.R_told (Kd.R_told (Kd.R_old (zkR I1) hb) (Kd.R_base T0)) (Kd.R_base e2)) (Kd.R_base f2)) (fun _ h_ => h_.1))
         have b2 := zK (Kd.R_lower (Kd.R_new' (Kd.R_new' (Kd.R_new' (Kd.R_new' T0 (Kd.R_lt (zkR d1))) (Kd.R_lt (zkR e1))) (Kd.R_lt (zkR f1))) (Kd.R_lt (zkR I1))) (zz zB))
         have d2 := zK (Kd.R_lower (Kd.R_new' (Kd.R_new' (Kd.R_new' (Kd.R_new' e2 (Kd.R_lt (zkR d1))) (Kd.R_lt (zkR e1))) (Kd.R_lt (zkR f1))) (Kd.R_lt (zkR I1))) (zz zB))
         have i2 := zK (Kd.R_lower (Kd.R_new' (Kd.R_new' (Kd.R_new' (Kd.R_new' f2 (Kd.R_lt (zkR d1))) (Kd.R_lt (zkR e1))) (Kd.R_lt (zkR f1))) (Kd.R_lt (zkR I1))) (zz zB))
         have m2 := z7 a hb
         have t2 := z7 q hb
         have x2 := z7 n0 hb
         have O1 := z8 hb
         revert R1 S1 T1 a2 b2 d2 i2 m2 t2 x2 O1
         clear d1 e1 f1 I1 a q n0 HB
         intro d1 e1 f1 I1 n2 o2 q2 a q n0 HB
         (try clear hb)
         (try clear hb2)
         (try clear hk)
         (try clear hi)
         (try clear T0)
         (try clear e2)
         (try clear f2)
         refine hK.out _ _ ⟨zy a 0, zy a 1, zy a 2, zy a 3, zy a 4, zy a 5, zy a 6, zy a 7, zy a 8, zy a 9, zy a 10, zy q 0, zy q 1, zy q 2, zy q 3, zy q 4, zy q 5⟩ (fun hHeld => ?_)
         clear hK K
         refine zU 34 ?_
         refine zP 7 27 (bl 13 1279) HT_ ?_
         refine zP 8 35 (bl 13 1535) HT_ ?_
         refine zP 9 36 (bl 13 2047) HT_ ?_
         exact norm_ (by first | (simp only [putAll, Act.put, zq1, zq2, zq3]; done) | (simp only [putAll, Act.put, zq1, zq2, zq3]; rfl)) (hJ1_3_5_6_10 (.slice A9 c6.length B9, .slice D9 d6.length E9, .slice G9 e6.length I9, .slice b2d b6.length b2e, v412, v415, v418, I0) _ ⟨hHeld, (zkM (zlR d1.out)), (zkM (zlR e1.out)), (zkM (zlR f1.out)), (zkM (zlR I1.out)), (zkM (zlR n2.out)), (zkM (zlR o2.out)), (zkM (zlR q2.out)), (zM a), (zM q), (zM n0), i6.out, T5.out, L0.out, n3.out, a1.out, m3.out, zB⟩)
     · as_aux_lemma =>
       skip
       rintro ⟨v397, v400, v403, v409, v412, v415, v418⟩ q6 ⟨hS_, a4, b4, d4, m4, n4, o4, F4, R4, S4, T4⟩
       try dsimp only at hS_ a4 b4 d4 m4 n4 o4 F4 R4 S4 T4
       have R1 := zK a4
       have S1 := zK b4
       have T1 := zK d4
       have a2 := zK m4
       have b2 := zK n4
       have d2 := zK o4
       have i2 := zK F4
       have m2 := zK R4
       have t2 := zK S4
       have x2 := zK T4
       clear a
       clear q
       clear HB
       clear a4 b4 d4 m4 n4 o4 F4 R4 S4 T4
       revert R1 S1 T1 a2 b2 d2 i2 m2 t2 x2
       intro d1 e1 f1 I1 n2 o2 q2 a q HB
       have hHeld := hS_
       refine norm_ (a' := ?_) ?_ ?_
       rotate_left
       · simp only [putAll, Act.put, zq1, zq2, zq3]
         rfl
       refine one_ (i := 10) (N := some 8) (bl 13 2047) rfl rfl (one_of HT_.out (by kernel_rfl)) (by decide) (fun K hK => ?_)
       refine box_step ?hg (N := 8) ?hd (cs := #[.slice none 0 0, .slice none 0 0, .slice none 0 0, .int .i64 0, .int .i64 0, .int .i64 0]) (t := 30) ?hr ?_; (case hd => rfl); (case hg => rfl); (case hr => first | (go_simp; done) | (go_simp; rfl))
       intro I0 hg S5 hbox hb
       have R1 := zK (Kd.R_below (zkR d1) hb)
       have S1 := zK (Kd.R_below (zkR e1) hb)
       have T1 := zK (Kd.R_below (zkR f1) hb)
       have a2 := zK (Kd.R_below (zkR I1) hb)
       have b2 := zK (Kd.R_below (zkR n2) hb)
       have d2 := zK (Kd.R_below (zkR o2) hb)
       have i2 := zK (Kd.R_below (zkR q2) hb)
       have m2 := z7 a hb
       have t2 := z7 q hb
       have x2 := z8 hb
       have O1 := zK (hbox)
       have U1 := z9 hg
       have V1 := z9 hg
       have X1 := zHH hg a
       have g2 := zGG hg a
       have B2 := zHH hg q
       have L2 := zGG hg q
       revert R1 S1 T1 a2 b2 d2 i2 m2 t2 x2 O1 U1 V1 X1 g2 B2 L2
       clear d1 e1 f1 I1 n2 o2 q2 a q HB
       intro d1 e1 f1 I1 n2 o2 q2 a q HB n0 i6 T5 L0 n3 a1 m3
       clear hb hbox hg
       refine hK.out _ _ ⟨zy a 0, zy a 1, zy a 2, zy a 3, zy a 4, zy a 5, zy a 6, zy a 7, zy a 8, zy a 9, zy a 10, zy q 0, zy q 1, zy q 2, zy q 3, zy q 4, zy q 5⟩ (fun hHeld => ?_)
       clear hK K
       refine zU 8 ?_
       exact norm_ (by first | (simp only [putAll, Act.put, zq1, zq2, zq3]; done) | (simp only [putAll, Act.put, zq1, zq2, zq3]; rfl)) (hJ1_3_5_6_10 (v397, v400, v403, v409, v412, v415, v418, I0) _ ⟨hHeld, (zkR d1), (zkR e1), (zkR f1), (zkR I1), (zkR n2), (zkR o2), (zkR q2), (zM a), (zM q), (zM n0), i6.out, T5.out, L0.out, n3.out, a1.out, m3.out, zB⟩)
   rintro ⟨v397, v400, v403, v409, v412, v415, v418, I0⟩ S5 ⟨hS_, a4, b4, d4, m4, n4, o4, F4, R4, S4, T4, C4, D4, E4, U4, c5, f5, g5⟩
   try dsimp only at hS_ a4 b4 d4 m4 n4 o4 F4 R4 S4 T4 C4 D4 E4 U4 c5 f5 g5
   have R1 := zK a4
   have S1 := zK b4
   have T1 := zK d4
   have a2 := zK m4
   have b2 := zK n4
   have d2 := zK o4
   have i2 := zK F4
   have m2 := zK R4
   have t2 := zK S4
   have x2 := zK T4
   have O1 := zK C4
   have U1 := zK D4
   have V1 := zK E4
   have X1 := zK U4
   have g2 := zK c5
   have B2 := zK f5
   have L2 := zK g5
   clear a
   clear q
   clear HB
   clear a4 b4 d4 m4 n4 o4 F4 R4 S4 T4 C4 D4 E4 U4 c5 f5 g5
   revert R1 S1 T1 a2 b2 d2 i2 m2 t2 x2 O1 U1 V1 X1 g2 B2 L2
   intro d1 e1 f1 I1 n2 o2 q2 a q n0 i6 T5 L0 n3 a1 m3 HB
   have hHeld := hS_
   obtain ⟨i0, b0, b2g⟩ := Kd.R_slice n2.out
   (first | subst b2g | (injection b2g with f1_ f2_ f3_; have f4_ := f1_.symm; have f5_ := f3_.symm; clear f1_ f2_ f3_; subst f4_; subst f5_))
   obtain ⟨l0, c0, b2j⟩ := Kd.R_slice o2.out
   (first | subst b2j | (injection b2j with f1_ f2_ f3_; have f4_ := f1_.symm; have f5_ := f3_.symm; clear f1_ f2_ f3_; subst f4_; subst f5_))
   obtain ⟨m0, d0, b2l⟩ := Kd.R_slice q2.out
   (first | subst b2l | (injection b2l with f1_ f2_ f3_; have f4_ := f1_.symm; have f5_ := f3_.symm; clear f1_ f2_ f3_; subst f4_; subst f5_))
   refine norm_ (a' := ?_) ?_ ?_
   rotate_left
   · simp only [putAll, Act.put, zq1, zq2, zq3]
     rfl
   refine one_ (i := 11) (N := none) (bl 13 4095) rfl rfl (one_of HT_.out (by kernel_rfl)) (by decide) (fun K hK => ?_)
   have c6z : S5.cell? ⟨I0, 0, none⟩ = some (.slice none 0 0) := zy n0 0
   have hfs40 := zf n0.out 0
   have hns40_0 := L0.out
   have hns40_1 := a1.out
   have hms40_0 := n3.out
   have hms40_1 := m3.out
   have c7a : S5.cell? ⟨I0, 1, none⟩ = some (.slice none 0 0) := zy n0 1
   have hfs42 := zf n0.out 1
   have hns42_0 := L0.out
   have hns42_1 := a1.out
   have hms42_0 := n3.out
   have hms42_1 := m3.out
   have c7b : S5.cell? ⟨I0, 2, none⟩ = some (.slice none 0 0) := zy n0 2
   have hfs44 := zf n0.out 2
   have hns44_0 := L0.out
   have hns44_1 := a1.out
   have hms44_0 := n3.out
   have hms44_1 := m3.out
   have c7c : S5.cell? ⟨I0, 3, none⟩ = some (.int .i64 0) := zy n0 3
   have hfs45 := zf n0.out 3
   have hns45_0 := L0.out
   have hns45_1 := a1.out
   have hms45_0 := n3.out
   have hms45_1 := m3.out
   have c7d : S5.cell? ⟨I0, 4, none⟩ = some (.int .i64 0) := zy n0 4
   have hfs46 := zf n0.out 4
   have hns46_0 := L0.out
   have hns46_1 := a1.out
   have hms46_0 := n3.out
   have hms46_1 := m3.out
   have c7e : S5.cell? ⟨I0, 5, none⟩ = some (.int .i64 0) := zy n0 5
   have hfs47 := zf n0.out 5
   have hns47_0 := L0.out
   have hns47_1 := a1.out
   have hms47_0 := n3.out
   have hms47_1 := m3.out
   refine skip_ (w1 := ?_) (by rfl) rfl ?_ ?_
   rotate_left
   · go_simp
     rfl
   refine hK.out _ _ ⟨((cell_far (p := ⟨I0, _, none⟩) L0.out _).trans (((cell_far (p := ⟨I0, _, none⟩) L0.out _).trans (((cell_far (p := ⟨I0, _, none⟩) L0.out _).trans (((cell_far (p := ⟨I0, _, none⟩) L0.out _).trans (((cell_far (p := ⟨I0, _, none⟩) L0.out _).trans (((cell_far (p := ⟨I0, _, none⟩) L0.out _).trans (hHeld.1)))))))))))), ((cell_far (p := ⟨I0, _, none⟩) L0.out _).trans (((cell_far (p := ⟨I0, _, none⟩) L0.out _).trans (((cell_far (p := ⟨I0, _, none⟩) L0.out _).trans (((cell_far (p := ⟨I0, _, none⟩) L0.out _).trans (((cell_far (p := ⟨I0, _, none⟩) L0.out _).trans (((cell_far (p := ⟨I0, _, none⟩) L0.out _).trans (hHeld.2.1)))))))))))), ((cell_far (p := ⟨I0, _, none⟩) L0.out _).trans (((cell_far (p := ⟨I0, _, none⟩) L0.out _).trans (((cell_far (p := ⟨I0, _, none⟩) L0.out _).trans (((cell_far (p := ⟨I0, _, none⟩) L0.out _).trans (((cell_far (p := ⟨I0, _, none⟩) L0.out _).trans (((cell_far (p := ⟨I0, _, none⟩) L0.out _).trans (hHeld.2.2.1)))))))))))), ((cell_far (p := ⟨I0, _, none⟩) L0.out _).trans (((cell_far (p := ⟨I0, _, none⟩) L0.out _).trans (((cell_far (p := ⟨I0, _, none⟩) L0.out _).trans (((cell_far (p := ⟨I0, _, none⟩) L0.out _).trans (((cell_far (p := ⟨I0, _, none⟩) L0.out _).trans (((cell_far (p := ⟨I0, _, none⟩) L0.out _).trans (hHeld.2.2.2.1)))))))))))), ((cell_far (p := ⟨I0, _, none⟩) L0.out _).trans (((cell_far (p := ⟨I0, _, none⟩) L0.out _).trans (((cell_far (p := ⟨I0, _, none⟩) L0.out _).trans (((cell_far (p := ⟨I0, _, none⟩) L0.out _).trans (((cell_far (p := ⟨I0, _, none⟩) L0.out _).trans (((cell_far (p := ⟨I0, _, none⟩) L0.out _).trans (hHeld.2.2.2.2.1)))))))))))), ((cell_far (p := ⟨I0, _, none⟩) L0.out _).trans (((cell_far (p := ⟨I0, _, none⟩) L0.out _).trans (((cell_far (p := ⟨I0, _, none⟩) L0.out _).trans (((cell_far (p := ⟨I0, _, none⟩) L0.out _).trans (((cell_far (p := ⟨I0, _, none⟩) L0.out _).trans (((cell_far (p := ⟨I0, _, none⟩) L0.out _).trans (hHeld.2.2.2.2.2.1)))))))))))), ((cell_far (p := ⟨I0, _, none⟩) L0.out _).trans (((cell_far (p := ⟨I0, _, none⟩) L0.out _).trans (((cell_far (p := ⟨I0, _, none⟩) L0.out _).trans (((cell_far (p := ⟨I0, _, none⟩) L0.out _).trans (((cell_far (p := ⟨I0, _, none⟩) L0.out _).trans (((cell_far (p := ⟨I0, _, none⟩) L0.out _).trans (hHeld.2.2.2.2.2.2.1)))))))))))), ((cell_far (p := ⟨I0, _, none⟩) L0.out _).trans (((cell_far (p := ⟨I0, _, none⟩) L0.out _).trans (((cell_far (p := ⟨I0, _, none⟩) L0.out _).trans (((cell_far (p := ⟨I0, _, none⟩) L0.out _).trans (((cell_far (p := ⟨I0, _, none⟩) L0.out _).trans (((cell_far (p := ⟨I0, _, none⟩) L0.out _).trans (hHeld.2.2.2.2.2.2.2.1)))))))))))), ((cell_far (p := ⟨I0, _, none⟩) L0.out _).trans (((cell_far (p := ⟨I0, _, none⟩) L0.out _).trans (((cell_far (p := ⟨I0, _, none⟩) L0.out _).trans (((cell_far (p := ⟨I0, _, none⟩) L0.out _).trans (((cell_far (p := ⟨I0, _, none⟩) L0.out _).trans (((cell_far (p := ⟨I0, _, none⟩) L0.out _).trans (hHeld.2.2.2.2.2.2.2.2.1)))))))))))), ((cell_far (p := ⟨I0, _, none⟩) L0.out _).trans (((cell_far (p := ⟨I0, _, none⟩) L0.out _).trans (((cell_far (p := ⟨I0, _, none⟩) L0.out _).trans (((cell_far (p := ⟨I0, _, none⟩) L0.out _).trans (((cell_far (p := ⟨I0, _, none⟩) L0.out _).trans (((cell_far (p := ⟨I0, _, none⟩) L0.out _).trans (hHeld.2.2.2.2.2.2.2.2.2.1)))))))))))), ((cell_far (p := ⟨I0, _, none⟩) L0.out _).trans (((cell_far (p := ⟨I0, _, none⟩) L0.out _).trans (((cell_far (p := ⟨I0, _, none⟩) L0.out _).trans (((cell_far (p := ⟨I0, _, none⟩) L0.out _).trans (((cell_far (p := ⟨I0, _, none⟩) L0.out _).trans (((cell_far (p := ⟨I0, _, none⟩) L0.out _).trans (hHeld.2.2.2.2.2.2.2.2.2.2.1)))))))))))), ((cell_far (p := ⟨I0, _, none⟩) a1.out _).trans (((cell_far (p := ⟨I0, _, none⟩) a1.out _).trans (((cell_far (p := ⟨I0, _, none⟩) a1.out _).trans (((cell_far (p := ⟨I0, _, none⟩) a1.out _).trans (((cell_far (p := ⟨I0, _, none⟩) a1.out _).trans (((cell_far (p := ⟨I0, _, none⟩) a1.out _).trans (hHeld.2.2.2.2.2.2.2.2.2.2.2.1)))))))))))), ((cell_far (p := ⟨I0, _, none⟩) a1.out _).trans (((cell_far (p := ⟨I0, _, none⟩) a1.out _).trans (((cell_far (p := ⟨I0, _, none⟩) a1.out _).trans (((cell_far (p := ⟨I0, _, none⟩) a1.out _).trans (((cell_far (p := ⟨I0, _, none⟩) a1.out _).trans (((cell_far (p := ⟨I0, _, none⟩) a1.out _).trans (hHeld.2.2.2.2.2.2.2.2.2.2.2.2.1)))))))))))), ((cell_far (p := ⟨I0, _, none⟩) a1.out _).trans (((cell_far (p := ⟨I0, _, none⟩) a1.out _).trans (((cell_far (p := ⟨I0, _, none⟩) a1.out _).trans (((cell_far (p := ⟨I0, _, none⟩) a1.out _).trans (((cell_far (p := ⟨I0, _, none⟩) a1.out _).trans (((cell_far (p := ⟨I0, _, none⟩) a1.out _).trans (hHeld.2.2.2.2.2.2.2.2.2.2.2.2.2.1)))))))))))), ((cell_far (p := ⟨I0, _, none⟩) a1.out _).trans (((cell_far (p := ⟨I0, _, none⟩) a1.out _).trans (((cell_far (p := ⟨I0, _, none⟩) a1.out _).trans (((cell_far (p := ⟨I0, _, none⟩) a1.out _).trans (((cell_far (p := ⟨I0, _, none⟩) a1.out _).trans (((cell_far (p := ⟨I0, _, none⟩) a1.out _).trans (hHeld.2.2.2.2.2.2.2.2.2.2.2.2.2.2.1)))))))))))), ((cell_far (p := ⟨I0, _, none⟩) a1.out _).trans (((cell_far (p := ⟨I0, _, none⟩) a1.out _).trans (((cell_far (p := ⟨I0, _, none⟩) a1.out _).trans (((cell_far (p := ⟨I0, _, none⟩) a1.out _).trans (((cell_far (p := ⟨I0, _, none⟩) a1.out _).trans (((cell_far (p := ⟨I0, _, none⟩) a1.out _).trans (hHeld.2.2.2.2.2.2.2.2.2.2.2.2.2.2.2.1)))))))))))), ((cell_far (p := ⟨I0, _, none⟩) a1.out _).trans (((cell_far (p := ⟨I0, _, none⟩) a1.out _).trans (((cell_far (p := ⟨I0, _, none⟩) a1.out _).trans (((cell_far (p := ⟨I0, _, none⟩) a1.out _).trans (((cell_far (p := ⟨I0, _, none⟩) a1.out _).trans (((cell_far (p := ⟨I0, _, none⟩) a1.out _).trans (hHeld.2.2.2.2.2.2.2.2.2.2.2.2.2.2.2.2))))))))))))⟩ (fun hHeld => ?_)
   clear hK K
   refine zP 12 9 (bl 13 8191) HT_ ?_
   refine done_ (done_of HT_.out (by kernel_rfl)) ?_
   have c4o := a1.out
   have c4p := m3.out
   obtain ⟨b7n, b7o, b7p, b7q, b7s, b7t, b7u, b7x, b7y, b7z, b8a, b8b⟩ := zc6 q
   try go_wp2_with (first | ((with_reducible refine gc 10 rfl ?_); refine zF 38 Try.func10 #[.agg #[.slice D2 g1.length E2, .slice F2 i1.length G2, .slice I2 l1.length J2, .int .i64 m1, .int .i64 n1, .int .i64 o1]] rfl zL ?_; refine (laws_toOpt.calls k _ _ g1 _ _ i1 _ _ l1 m1 n1 o1 L1 M1 N1 N3 O3 R3 _ (z4 y8.out zB) A8.out (z4 B8.out zB) C8.out (z4 D8.out zB) E8.out A18.out).mono ?_; rintro e w50 ⟨v426, v429, v432, rfl, T0, e2, f2, hb⟩; refine ⟨_, rfl, ?_⟩; have R1 := zK (Kd.R_mono (Kd.R_told (Kd.R_told (Kd.R_told (Kd.R_old (zT6 d1.out n0.out (by decide)) hb) (Kd.R_base T0)) (Kd.R_base e2)) (Kd.R_base f2)) (fun _ h_ => h_.1)); have S1 := zK (Kd.R_mono (Kd.R_told (Kd.R_told (Kd.R_told (Kd.R_old (zT6 e1.out n0.out (by decide)) hb) (Kd.R_base T0)) (Kd.R_base e2)) (Kd.R_base f2)) (fun _ h_ => h_.1)); have T1 := zK (Kd.R_mono (Kd.R_told (Kd.R_told (Kd.R_told (Kd.R_old (zT6 f1.out n0.out (by decide)) hb) (Kd.R_base T0)) (Kd.R_base e2)) (Kd.R_base f2)) (fun _ h_ => h_.1)); have a2 := zK (Kd.R_mono (Kd.R_told (Kd.R_told (Kd.R_told (Kd.R_old (zT6 I1.out n0.out (by decide)) hb) (Kd.R_base T0)) (Kd.R_base e2)) (Kd.R_base f2)) (fun _ h_ => h_.1)); have b2 := zK (Kd.R_mono (Kd.R_told (Kd.R_told (Kd.R_told (Kd.R_old (zT6 n2.out n0.out (by decide)) hb) (Kd.R_base T0)) (Kd.R_base e2)) (Kd.R_base f2)) (fun _ h_ => h_.1)); have d2 := zK (Kd.R_mono (Kd.R_told (Kd.R_told (Kd.R_told (Kd.R_old (zT6 o2.out n0.out (by decide)) hb) (Kd.R_base T0)) (Kd.R_base e2)) (Kd.R_base f2)) (fun _ h_ => h_.1)); have i2 := zK (Kd.R_mono (Kd.R_told (Kd.R_told (Kd.R_told (Kd.R_old (zT6 q2.out n0.out (by decide)) hb) (Kd.R_base T0)) (Kd.R_base e2)) (Kd.R_base f2)) (fun _ h_ => h_.1)); have m2 := zK (Kd.R_lower (Kd.R_new' (Kd.R_new' (Kd.R_new' (Kd.R_new' (Kd.R_new' (Kd.R_new' (Kd.R_new' T0 (Kd.R_lt (zT6 d1.out n0.out (by decide)))) (Kd.R_lt (zT6 e1.out n0.out (by decide)))) (Kd.R_lt (zT6 f1.out n0.out (by decide)))) (Kd.R_lt (zT6 I1.out n0.out (by decide)))) (Kd.R_lt (zT6 n2.out n0.out (by decide)))) (Kd.R_lt (zT6 o2.out n0.out (by decide)))) (Kd.R_lt (zT6 q2.out n0.out (by decide)))) (zz zB)); have t2 := zK (Kd.R_lower (Kd.R_new' (Kd.R_new' (Kd.R_new' (Kd.R_new' (Kd.R_new' (Kd.R_new' (Kd.R_new' e2 (Kd.R_lt (zT6 d1.out n0.out (by decide)))) (Kd.R_lt (zT6 e1.out n0.out (by decide)))) (Kd.R_lt (zT6 f1.out n0.out (by decide)))) (Kd.R_lt (zT6 I1.out n0.out (by decide)))) (Kd.R_lt (zT6 n2.out n0.out (by decide)))) (Kd.R_lt (zT6 o2.out n0.out (by decide)))) (Kd.R_lt (zT6 q2.out n0.out (by decide)))) (zz zB)); have x2 := zK (Kd.R_lower (Kd.R_new' (Kd.R_new' (Kd.R_new' (Kd.R_new' (Kd.R_new' (Kd.R_new' (Kd.R_new' f2 (Kd.R_lt (zT6 d1.out n0.out (by decide)))) (Kd.R_lt (zT6 e1.out n0.out (by decide)))) (Kd.R_lt (zT6 f1.out n0.out (by decide)))) (Kd.R_lt (zT6 I1.out n0.out (by decide)))) (Kd.R_lt (zT6 n2.out n0.out (by decide)))) (Kd.R_lt (zT6 o2.out n0.out (by decide)))) (Kd.R_lt (zT6 q2.out n0.out (by decide)))) (zz zB)); have O1 := zK (zg (zV a) hb); have U1 := zK (zg (zV q) hb); have V1 := zK (zg (g := I0) (o := .cells #[.slice i0 u.length b0, .slice l0 x.length c0, .slice m0 y.length d0, .int .i64 c3, .int .i64 d3, .int .i64 e3] 30 (0, 0)) (zW n0) hb); have X1 := z8 hb; revert R1 S1 T1 a2 b2 d2 i2 m2 t2 x2 O1 U1 V1 X1; clear d1 e1 f1 I1 n2 o2 q2 a q n0 HB; intro d1 e1 f1 I1 n2 o2 q2 N2 O2 R2 a q n0 HB) | ((with_reducible refine gd 10 rfl ?_); refine zJ 10 #[.slice none 0 0, .slice none 0 0, .slice none 0 0, .int .i64 0, .int .i64 0, .int .i64 0] 30 ?_; intro C2 hg w51 hbox hb; have R1 := zK (Kd.R_below (zkR d1) hb); have S1 := zK (Kd.R_below (zkR e1) hb); have T1 := zK (Kd.R_below (zkR f1) hb); have a2 := zK (Kd.R_below (zkR I1) hb); have b2 := zK (Kd.R_below (zkR n2) hb); have d2 := zK (Kd.R_below (zkR o2) hb); have i2 := zK (Kd.R_below (zkR q2) hb); have m2 := zK (Kd.R_below (zkR N2) hb); have t2 := zK (Kd.R_below (zkR O2) hb); have x2 := zK (Kd.R_below (zkR R2) hb); have O1 := z7 a hb; have U1 := z7 q hb; have V1 := z7 n0 hb; have X1 := z8 hb; have g2 := zK (hbox); have B2 := z9 hg; have L2 := z9 hg; have V2 := zHH hg a; have b3 := zGG hg a; have G3 := zHH hg q; have p4 := zGG hg q; have q4 := zHH hg n0; have V4 := zGG hg n0; revert R1 S1 T1 a2 b2 d2 i2 m2 t2 x2 O1 U1 V1 X1 g2 B2 L2 V2 b3 G3 p4 q4 V4; clear d1 e1 f1 I1 n2 o2 q2 N2 O2 R2 a q n0 HB; intro d1 e1 f1 I1 n2 o2 q2 N2 O2 R2 a q n0 HB T c4q a2p m9 n9 o9 p9 B6 C6; clear hb hbox hg; obtain ⟨E, I, b4l⟩ := Kd.R_slice N2.out; subst b4l; have c4s := n9.out; have c4t := m9.out; have c4u := p9.out; have c4x := o9.out; have c4y := C6.out; have c4z := B6.out; obtain ⟨b8c, b8d, b8e, b8f, b8g, b8j, b8l, b8m, b8n, b8o, b8p, b8q⟩ := zc6 T; obtain ⟨J, L, b4m⟩ := Kd.R_slice O2.out; subst b4m; obtain ⟨M, O, b4n⟩ := Kd.R_slice R2.out; subst b4n) | ((with_reducible refine gc 11 rfl ?_); refine zF 40 Try.func11 #[.slice A2 l2.length c2] rfl zL ?_; refine (laws_toIntS.calls k _ _ l2 J1 _ (z4 U9.out zB) V9.out A19.out).mono ?_; rintro e w59 ⟨v439, rfl, T0, hb⟩; refine ⟨_, rfl, ?_⟩; have R1 := zK (Kd.R_elder' (zT6 d1.out T.out (by decide)) (Kd.R_base T0) hb); have S1 := zK (Kd.R_elder' (zT6 e1.out T.out (by decide)) (Kd.R_base T0) hb); have T1 := zK (Kd.R_elder' (zT6 f1.out T.out (by decide)) (Kd.R_base T0) hb); have a2 := zK (Kd.R_elder' (zT6 I1.out T.out (by decide)) (Kd.R_base T0) hb); have b2 := zK (Kd.R_elder' (zT6 n2.out T.out (by decide)) (Kd.R_base T0) hb); have d2 := zK (Kd.R_elder' (zT6 o2.out T.out (by decide)) (Kd.R_base T0) hb); have i2 := zK (Kd.R_elder' (zT6 q2.out T.out (by decide)) (Kd.R_base T0) hb); have m2 := zK (Kd.R_elder' (zT6 N2.out T.out (by decide)) (Kd.R_base T0) hb); have t2 := zK (Kd.R_elder' (zT6 O2.out T.out (by decide)) (Kd.R_base T0) hb); have x2 := zK (Kd.R_elder' (zT6 R2.out T.out (by decide)) (Kd.R_base T0) hb); have O1 := zK (Kd.R_lower (Kd.R_new' (Kd.R_new' (Kd.R_new' (Kd.R_new' (Kd.R_new' (Kd.R_new' (Kd.R_new' (Kd.R_new' (Kd.R_new' (Kd.R_new' T0 (Kd.R_lt (zT6 d1.out T.out (by decide)))) (Kd.R_lt (zT6 e1.out T.out (by decide)))) (Kd.R_lt (zT6 f1.out T.out (by decide)))) (Kd.R_lt (zT6 I1.out T.out (by decide)))) (Kd.R_lt (zT6 n2.out T.out (by decide)))) (Kd.R_lt (zT6 o2.out T.out (by decide)))) (Kd.R_lt (zT6 q2.out T.out (by decide)))) (Kd.R_lt (zT6 N2.out T.out (by decide)))) (Kd.R_lt (zT6 O2.out T.out (by decide)))) (Kd.R_lt (zT6 R2.out T.out (by decide)))) (zz zB)); have U1 := zK (zg (zV a) hb); have V1 := zK (zg (zV q) hb); have X1 := zK (zg (zV n0) hb); have g2 := zK (zg (g := C2) (o := .cells #[.slice E L1.length I, .slice J M1.length L, .slice M N1.length O, .int .i64 N3, .int .i64 O3, .int .i64 R3] 30 (0, 0)) (zW T) hb); have B2 := z8 hb; revert R1 S1 T1 a2 b2 d2 i2 m2 t2 x2 O1 U1 V1 X1 g2 B2; clear d1 e1 f1 I1 n2 o2 q2 N2 O2 R2 a q n0 T HB; intro d1 e1 f1 I1 n2 o2 q2 N2 O2 R2 g3 a q n0 T HB; obtain ⟨T2, U2, b4o⟩ := Kd.R_slice g3.out; subst b4o))
   have R1 := zK (Kd.R_drew d1.out)
   have S1 := zK (Kd.R_drew e1.out)
   have T1 := zK (Kd.R_drew f1.out)
   have a2 := zK (Kd.R_drew I1.out)
   have b2 := zK (Kd.R_drew n2.out)
   have d2 := zK (Kd.R_drew o2.out)
   have i2 := zK (Kd.R_drew q2.out)
   have m2 := zK (Kd.R_drew N2.out)
   have t2 := zK (Kd.R_drew O2.out)
   have x2 := zK (Kd.R_drew R2.out)
   have O1 := zK (Kd.R_drew g3.out)
   have U1 := zK (zd a.out)
   have V1 := zK (zd q.out)
   have X1 := zK (zd n0.out)
   have g2 := zK (zd T.out)
   have B2 := zK (ze HB.out)
   revert R1 S1 T1 a2 b2 d2 i2 m2 t2 x2 O1 U1 V1 X1 g2 B2
   clear d1 e1 f1 I1 n2 o2 q2 N2 O2 R2 g3 a q n0 T HB
   intro d1 e1 f1 I1 n2 o2 q2 N2 O2 R2 g3 a q n0 T HB
   refine start_ (n := 11) (S := fun w' => w'.cell? ⟨l, 0, none⟩ = some (.int .i64 p1) ∧ w'.cell? ⟨l, 1, none⟩ = some (.int .i64 q1) ∧ w'.cell? ⟨l, 2, none⟩ = some (.int .i64 t1) ∧ w'.cell? ⟨l, 3, none⟩ = some (.int .i64 x1) ∧ w'.cell? ⟨l, 4, none⟩ = some (.int .i64 y1) ∧ w'.cell? ⟨l, 5, none⟩ = some (.int .i64 A1) ∧ w'.cell? ⟨l, 6, none⟩ = some (.int .i64 B1) ∧ w'.cell? ⟨l, 7, none⟩ = some (.int .i64 C1) ∧ w'.cell? ⟨l, 8, none⟩ = some (.int .i64 D1) ∧ w'.cell? ⟨l, 9, none⟩ = some (.int .i64 E1) ∧ w'.cell? ⟨l, 10, none⟩ = some (.int .i64 S0) ∧ w'.cell? ⟨C2, 0, none⟩ = some (.slice E L1.length I) ∧ w'.cell? ⟨C2, 1, none⟩ = some (.slice J M1.length L) ∧ w'.cell? ⟨C2, 2, none⟩ = some (.slice M N1.length O) ∧ w'.cell? ⟨C2, 3, none⟩ = some (.int .i64 N3) ∧ w'.cell? ⟨C2, 4, none⟩ = some (.int .i64 O3) ∧ w'.cell? ⟨C2, 5, none⟩ = some (.int .i64 R3)) (ds := []) (bl 11 0) (by kernel_rfl) rfl (by kernel_rfl) ⟨zy a 0, zy a 1, zy a 2, zy a 3, zy a 4, zy a 5, zy a 6, zy a 7, zy a 8, zy a 9, zy a 10, zy T 0, zy T 1, zy T 2, zy T 3, zy T 4, zy T 5⟩ (fun hHeld => ?_); refine with_tabW laws_FnExactStepOpt.tab10 laws_FnExactStepOpt.bits10 (fun HT_ HW_ => ?_)
   generalize w59.drew = w61 at d1 e1 f1 I1 n2 o2 q2 N2 O2 R2 g3 a q n0 T HB hHeld ⊢
   refine zP 3 45 (bl 11 8) HT_ ?_
   refine zT 0 42 (bl 11 9) rfl rfl HT_ HW_ hHeld (by rintro w' ⟨s0, s1, s2, s3, s4, s5, s6, s7, s8, s9, x9, y9, s12, s13, s14, s15, s16⟩; go_simp; with_reducible rfl) ?_
   refine zT 2 44 (bl 11 13) rfl rfl HT_ HW_ hHeld (by rintro w' ⟨s0, s1, s2, s3, s4, s5, s6, s7, s8, s9, x9, y9, s12, s13, s14, s15, s16⟩; go_simp; with_reducible rfl) ?_
   refine join_ (σ := Value × Value × Value × Nat) 2 (bl 11 511) (fun s_ => [(43, .agg #[.int .i64 e8, .int .i64 f8, .int .i64 g8, .int .i64 i8, .int .i64 j8, .int .i64 l8, .int .i64 m8, .int .i64 n8, .int .i64 o8, .int .i64 p8, .int .i64 q8]), (46, .tuple #[.agg #[s_.1, s_.2.1, s_.2.2.1, .int .i64 o3, .int .i64 p3, .int .i64 q3], .bool D7]), (12, .pointer (some ⟨s_.2.2.2, 0, none⟩)), (41, .tuple #[.agg #[s_.1, s_.2.1, s_.2.2.1, .int .i64 o3, .int .i64 p3, .int .i64 q3], .bool D7]), (47, .agg #[s_.1, s_.2.1, s_.2.2.1, .int .i64 o3, .int .i64 p3, .int .i64 q3]), (48, .bool D7)]) (fun s_ w' => (w'.cell? ⟨l, 0, none⟩ = some (.int .i64 p1) ∧ w'.cell? ⟨l, 1, none⟩ = some (.int .i64 q1) ∧ w'.cell? ⟨l, 2, none⟩ = some (.int .i64 t1) ∧ w'.cell? ⟨l, 3, none⟩ = some (.int .i64 x1) ∧ w'.cell? ⟨l, 4, none⟩ = some (.int .i64 y1) ∧ w'.cell? ⟨l, 5, none⟩ = some (.int .i64 A1) ∧ w'.cell? ⟨l, 6, none⟩ = some (.int .i64 B1) ∧ w'.cell? ⟨l, 7, none⟩ = some (.int .i64 C1) ∧ w'.cell? ⟨l, 8, none⟩ = some (.int .i64 D1) ∧ w'.cell? ⟨l, 9, none⟩ = some (.int .i64 E1) ∧ w'.cell? ⟨l, 10, none⟩ = some (.int .i64 S0) ∧ w'.cell? ⟨C2, 0, none⟩ = some (.slice E L1.length I) ∧ w'.cell? ⟨C2, 1, none⟩ = some (.slice J M1.length L) ∧ w'.cell? ⟨C2, 2, none⟩ = some (.slice M N1.length O) ∧ w'.cell? ⟨C2, 3, none⟩ = some (.int .i64 N3) ∧ w'.cell? ⟨C2, 4, none⟩ = some (.int .i64 O3) ∧ w'.cell? ⟨C2, 5, none⟩ = some (.int .i64 R3)) ∧ (Kd.R (Kd.int .i64) 3 w' w.heap.size (fun k_ => zo v400 k_ ∧ zo v403 k_ ∧ zo v409 k_ ∧ zo (.slice i0 u.length b0) k_ ∧ zo (.slice l0 x.length c0) k_ ∧ zo (.slice m0 y.length d0) k_ ∧ zo (.slice E L1.length I) k_ ∧ zo (.slice J M1.length L) k_ ∧ zo (.slice M N1.length O) k_ ∧ zo (.slice T2 J1.length U2) k_ ∧ zo s_.1 k_ ∧ zo s_.2.1 k_ ∧ zo s_.2.2.1 k_) v397 c6) ∧ (Kd.R (Kd.int .i64) 3 w' w.heap.size (fun k_ => zo v397 k_ ∧ zo v403 k_ ∧ zo v409 k_ ∧ zo (.slice i0 u.length b0) k_ ∧ zo (.slice l0 x.length c0) k_ ∧ zo (.slice m0 y.length d0) k_ ∧ zo (.slice E L1.length I) k_ ∧ zo (.slice J M1.length L) k_ ∧ zo (.slice M N1.length O) k_ ∧ zo (.slice T2 J1.length U2) k_ ∧ zo s_.1 k_ ∧ zo s_.2.1 k_ ∧ zo s_.2.2.1 k_) v400 d6) ∧ (Kd.R (Kd.int .i64) 3 w' w.heap.size (fun k_ => zo v397 k_ ∧ zo v400 k_ ∧ zo v409 k_ ∧ zo (.slice i0 u.length b0) k_ ∧ zo (.slice l0 x.length c0) k_ ∧ zo (.slice m0 y.length d0) k_ ∧ zo (.slice E L1.length I) k_ ∧ zo (.slice J M1.length L) k_ ∧ zo (.slice M N1.length O) k_ ∧ zo (.slice T2 J1.length U2) k_ ∧ zo s_.1 k_ ∧ zo s_.2.1 k_ ∧ zo s_.2.2.1 k_) v403 e6) ∧ (Kd.R (Kd.int .i64) 3 w' w.heap.size (fun k_ => zo v397 k_ ∧ zo v400 k_ ∧ zo v403 k_ ∧ zo (.slice i0 u.length b0) k_ ∧ zo (.slice l0 x.length c0) k_ ∧ zo (.slice m0 y.length d0) k_ ∧ zo (.slice E L1.length I) k_ ∧ zo (.slice J M1.length L) k_ ∧ zo (.slice M N1.length O) k_ ∧ zo (.slice T2 J1.length U2) k_ ∧ zo s_.1 k_ ∧ zo s_.2.1 k_ ∧ zo s_.2.2.1 k_) v409 b6) ∧ (Kd.R (Kd.int .i64) 3 w' w.heap.size (fun k_ => zo v397 k_ ∧ zo v400 k_ ∧ zo v403 k_ ∧ zo v409 k_ ∧ zo (.slice l0 x.length c0) k_ ∧ zo (.slice m0 y.length d0) k_ ∧ zo (.slice E L1.length I) k_ ∧ zo (.slice J M1.length L) k_ ∧ zo (.slice M N1.length O) k_ ∧ zo (.slice T2 J1.length U2) k_ ∧ zo s_.1 k_ ∧ zo s_.2.1 k_ ∧ zo s_.2.2.1 k_) (.slice i0 u.length b0) u) ∧ (Kd.R (Kd.int .i64) 3 w' w.heap.size (fun k_ => zo v397 k_ ∧ zo v400 k_ ∧ zo v403 k_ ∧ zo v409 k_ ∧ zo (.slice i0 u.length b0) k_ ∧ zo (.slice m0 y.length d0) k_ ∧ zo (.slice E L1.length I) k_ ∧ zo (.slice J M1.length L) k_ ∧ zo (.slice M N1.length O) k_ ∧ zo (.slice T2 J1.length U2) k_ ∧ zo s_.1 k_ ∧ zo s_.2.1 k_ ∧ zo s_.2.2.1 k_) (.slice l0 x.length c0) x) ∧ (Kd.R (Kd.int .i64) 3 w' w.heap.size (fun k_ => zo v397 k_ ∧ zo v400 k_ ∧ zo v403 k_ ∧ zo v409 k_ ∧ zo (.slice i0 u.length b0) k_ ∧ zo (.slice l0 x.length c0) k_ ∧ zo (.slice E L1.length I) k_ ∧ zo (.slice J M1.length L) k_ ∧ zo (.slice M N1.length O) k_ ∧ zo (.slice T2 J1.length U2) k_ ∧ zo s_.1 k_ ∧ zo s_.2.1 k_ ∧ zo s_.2.2.1 k_) (.slice m0 y.length d0) y) ∧ (Kd.R (Kd.int .i64) 3 w' w.heap.size (fun k_ => zo v397 k_ ∧ zo v400 k_ ∧ zo v403 k_ ∧ zo v409 k_ ∧ zo (.slice i0 u.length b0) k_ ∧ zo (.slice l0 x.length c0) k_ ∧ zo (.slice m0 y.length d0) k_ ∧ zo (.slice J M1.length L) k_ ∧ zo (.slice M N1.length O) k_ ∧ zo (.slice T2 J1.length U2) k_ ∧ zo s_.1 k_ ∧ zo s_.2.1 k_ ∧ zo s_.2.2.1 k_) (.slice E L1.length I) L1) ∧ (Kd.R (Kd.int .i64) 3 w' w.heap.size (fun k_ => zo v397 k_ ∧ zo v400 k_ ∧ zo v403 k_ ∧ zo v409 k_ ∧ zo (.slice i0 u.length b0) k_ ∧ zo (.slice l0 x.length c0) k_ ∧ zo (.slice m0 y.length d0) k_ ∧ zo (.slice E L1.length I) k_ ∧ zo (.slice M N1.length O) k_ ∧ zo (.slice T2 J1.length U2) k_ ∧ zo s_.1 k_ ∧ zo s_.2.1 k_ ∧ zo s_.2.2.1 k_) (.slice J M1.length L) M1) ∧ (Kd.R (Kd.int .i64) 3 w' w.heap.size (fun k_ => zo v397 k_ ∧ zo v400 k_ ∧ zo v403 k_ ∧ zo v409 k_ ∧ zo (.slice i0 u.length b0) k_ ∧ zo (.slice l0 x.length c0) k_ ∧ zo (.slice m0 y.length d0) k_ ∧ zo (.slice E L1.length I) k_ ∧ zo (.slice J M1.length L) k_ ∧ zo (.slice T2 J1.length U2) k_ ∧ zo s_.1 k_ ∧ zo s_.2.1 k_ ∧ zo s_.2.2.1 k_) (.slice M N1.length O) N1) ∧ (Kd.R (Kd.int .i64) 3 w' w.heap.size (fun k_ => zo v397 k_ ∧ zo v400 k_ ∧ zo v403 k_ ∧ zo v409 k_ ∧ zo (.slice i0 u.length b0) k_ ∧ zo (.slice l0 x.length c0) k_ ∧ zo (.slice m0 y.length d0) k_ ∧ zo (.slice E L1.length I) k_ ∧ zo (.slice J M1.length L) k_ ∧ zo (.slice M N1.length O) k_ ∧ zo s_.1 k_ ∧ zo s_.2.1 k_ ∧ zo s_.2.2.1 k_) (.slice T2 J1.length U2) J1) ∧ (Kd.R (Kd.int .i64) 3 w' w.heap.size (fun k_ => zo v397 k_ ∧ zo v400 k_ ∧ zo v403 k_ ∧ zo v409 k_ ∧ zo (.slice i0 u.length b0) k_ ∧ zo (.slice l0 x.length c0) k_ ∧ zo (.slice m0 y.length d0) k_ ∧ zo (.slice E L1.length I) k_ ∧ zo (.slice J M1.length L) k_ ∧ zo (.slice M N1.length O) k_ ∧ zo (.slice T2 J1.length U2) k_ ∧ zo s_.2.1 k_ ∧ zo s_.2.2.1 k_) s_.1 U) ∧ (Kd.R (Kd.int .i64) 3 w' w.heap.size (fun k_ => zo v397 k_ ∧ zo v400 k_ ∧ zo v403 k_ ∧ zo v409 k_ ∧ zo (.slice i0 u.length b0) k_ ∧ zo (.slice l0 x.length c0) k_ ∧ zo (.slice m0 y.length d0) k_ ∧ zo (.slice E L1.length I) k_ ∧ zo (.slice J M1.length L) k_ ∧ zo (.slice M N1.length O) k_ ∧ zo (.slice T2 J1.length U2) k_ ∧ zo s_.1 k_ ∧ zo s_.2.2.1 k_) s_.2.1 X) ∧ (Kd.R (Kd.int .i64) 3 w' w.heap.size (fun k_ => zo v397 k_ ∧ zo v400 k_ ∧ zo v403 k_ ∧ zo v409 k_ ∧ zo (.slice i0 u.length b0) k_ ∧ zo (.slice l0 x.length c0) k_ ∧ zo (.slice m0 y.length d0) k_ ∧ zo (.slice E L1.length I) k_ ∧ zo (.slice J M1.length L) k_ ∧ zo (.slice M N1.length O) k_ ∧ zo (.slice T2 J1.length U2) k_ ∧ zo s_.1 k_ ∧ zo s_.2.1 k_) s_.2.2.1 a0) ∧ (w'.heap[l]? = some (.cells #[.int .i64 p1, .int .i64 q1, .int .i64 t1, .int .i64 x1, .int .i64 y1, .int .i64 A1, .int .i64 B1, .int .i64 C1, .int .i64 D1, .int .i64 E1, .int .i64 S0] 25 (0, 0))) ∧ (w'.heap[z]? = some (.cells #[.slice D2 g1.length E2, .slice F2 i1.length G2, .slice I2 l1.length J2, .int .i64 m1, .int .i64 n1, .int .i64 o1] 28 (0, 0))) ∧ (w'.heap[I0]? = some (.cells #[.slice i0 u.length b0, .slice l0 x.length c0, .slice m0 y.length d0, .int .i64 c3, .int .i64 d3, .int .i64 e3] 30 (0, 0))) ∧ (w'.heap[C2]? = some (.cells #[.slice E L1.length I, .slice J M1.length L, .slice M N1.length O, .int .i64 N3, .int .i64 O3, .int .i64 R3] 30 (0, 0))) ∧ (w'.heap[s_.2.2.2]? = some (.cells #[.slice none 0 0, .slice none 0 0, .slice none 0 0, .int .i64 0, .int .i64 0, .int .i64 0] 30 (0, 0))) ∧ (w.heap.size ≤ s_.2.2.2) ∧ (w.heap.size ≤ s_.2.2.2) ∧ (l ≠ s_.2.2.2) ∧ (s_.2.2.2 ≠ l) ∧ (z ≠ s_.2.2.2) ∧ (s_.2.2.2 ≠ z) ∧ (I0 ≠ s_.2.2.2) ∧ (s_.2.2.2 ≠ I0) ∧ (C2 ≠ s_.2.2.2) ∧ (s_.2.2.2 ≠ C2) ∧ (Below w.heap.size w w')) ?_ ?_
   rotate_left
   · as_aux_lemma =>
     intro hCont
     refine two_ (i := 1) (j := 8) (Ni := some 43) (Nj := some 12) (bl 11 15) (bl 11 269) rfl rfl rfl rfl (two_of HT_.out (by kernel_rfl)) (by decide) (by decide) (fun K hK => ?_) (fun K hK => ?_)
     · as_aux_lemma =>
       skip
       refine goes_ Try.func9 (by kernel_rfl) rfl #[.agg #[.int .i64 p1, .int .i64 q1, .int .i64 t1, .int .i64 x1, .int .i64 y1, .int .i64 A1, .int .i64 B1, .int .i64 C1, .int .i64 D1, .int .i64 E1, .int .i64 S0]] (by rfl) rfl rfl zL ?_
       with_reducible refine (laws_toRule.calls p1 q1 t1 x1 y1 A1 B1 C1 D1 E1 S0 e8 f8 g8 i8 j8 l8 m8 n8 o8 p8 q8 _ A20.out).mono ?_
       rintro e w62 ⟨rfl, hb⟩
       refine ⟨_, rfl, ?_⟩
       have R1 := zK (Kd.R_below (zkR d1) hb)
       have S1 := zK (Kd.R_below (zkR e1) hb)
       have T1 := zK (Kd.R_below (zkR f1) hb)
       have a2 := zK (Kd.R_below (zkR I1) hb)
       have b2 := zK (Kd.R_below (zkR n2) hb)
       have d2 := zK (Kd.R_below (zkR o2) hb)
       have i2 := zK (Kd.R_below (zkR q2) hb)
       have m2 := zK (Kd.R_below (zkR N2) hb)
       have t2 := zK (Kd.R_below (zkR O2) hb)
       have x2 := zK (Kd.R_below (zkR R2) hb)
       have O1 := zK (Kd.R_below (zkR g3) hb)
       have U1 := z7 a hb
       have V1 := z7 q hb
       have X1 := z7 n0 hb
       have g2 := z7 T hb
       have B2 := z8 hb
       revert R1 S1 T1 a2 b2 d2 i2 m2 t2 x2 O1 U1 V1 X1 g2 B2
       clear d1 e1 f1 I1 n2 o2 q2 N2 O2 R2 g3 a q n0 T HB
       intro d1 e1 f1 I1 n2 o2 q2 N2 O2 R2 g3 a q n0 T HB
       (try clear hb)
       (try clear hb2)
       (try clear hk)
       (try clear hi)
       refine hK.out _ _ ⟨zy a 0, zy a 1, zy a 2, zy a 3, zy a 4, zy a 5, zy a 6, zy a 7, zy a 8, zy a 9, zy a 10, zy T 0, zy T 1, zy T 2, zy T 3, zy T 4, zy T 5⟩ (fun hHeld => ?_)
       clear hK K
       refine zU 43 ?_
       refine two_ (i := 4) (j := 8) (Ni := some 46) (Nj := some 12) (bl 11 31) (bl 11 271) rfl rfl rfl rfl (two_of HT_.out (by kernel_rfl)) (by decide) (by decide) (fun K hK => ?_) (fun K hK => ?_)
       · as_aux_lemma =>
         skip
         refine goes_ Try.func12 (by kernel_rfl) rfl #[.agg #[.int .i64 e8, .int .i64 f8, .int .i64 g8, .int .i64 i8, .int .i64 j8, .int .i64 l8, .int .i64 m8, .int .i64 n8, .int .i64 o8, .int .i64 p8, .int .i64 q8], .agg #[.slice E L1.length I, .slice J M1.length L, .slice M N1.length O, .int .i64 N3, .int .i64 O3, .int .i64 R3], .slice T2 J1.length U2] (by rfl) rfl rfl zL ?_
         refine (impl_StepOpt.calls k e8 f8 g8 i8 j8 l8 m8 n8 o8 p8 q8 _ _ L1 _ _ M1 _ _ N1 N3 O3 R3 _ _ J1 U X a0 o3 p3 q3 D7 _ (zC (Kd.R_reads' N2.out).2.2) ((Kd.R_reads' N2.out).2.1) (zC (Kd.R_reads' O2.out).2.2) ((Kd.R_reads' O2.out).2.1) (zC (Kd.R_reads' R2.out).2.2) ((Kd.R_reads' R2.out).2.1) (zC (Kd.R_reads' g3.out).2.2) ((Kd.R_reads' g3.out).2.1) A21.out).mono ?_
         rintro e w63 ⟨v453, v456, v459, rfl, T0, e2, f2, hb⟩
         refine ⟨_, rfl, ?_⟩
         have R1 := zK (Kd.R_mono (Kd.R_told (Kd.R_told (Kd.R_told (Kd.R_old (zkR d1) hb) (Kd.R_base T0)) (Kd.R_base e2)) (Kd.R_base f2)) (fun _ h_ => h_.1))
         have S1 := zK (Kd.R_mono (Kd.R_told (Kd.R_told (Kd.R_told (Kd.R_old (zkR e1) hb) (Kd.R_base T0)) (Kd.R_base e2)) (Kd.R_base f2)) (fun _ h_ => h_.1))
         have T1 := zK (Kd.R_mono (Kd.R_told (Kd.R_told (Kd.R_told (Kd.R_old (zkR f1) hb) (Kd.R_base T0)) (Kd.R_base e2)) (Kd.R_base f2)) (fun _ h_ => h_.1))
         have a2 := zK (Kd.R_mono (Kd.R_told (Kd.R_told (Kd.R_told (Kd.R_old (zkR I1) hb) (Kd.R_base T0)) (Kd.R_base e2)) (Kd.R_base f2)) (fun _ h_ => h_.1))
         have b2 := zK (Kd.R_mono (Kd.R_told (Kd.R_told (Kd.R_told (Kd.R_old (zkR n2) hb) (Kd.R_base T0)) (Kd.R_base e2)) (Kd.R_base f2)) (fun _ h_ => h_.1))
         have d2 := zK (Kd.R_mono (Kd.R_told (Kd.R_told (Kd.R_told (Kd.R_old (zkR o2) hb) (Kd.R_base T0)) (Kd.R_base e2)) (Kd.R_base f2)) (fun _ h_ => h_.1))
         have i2 := zK (Kd.R_mono (Kd.R_told (Kd.R_told (Kd.R_told (Kd.R_old (zkR q2) hb) (Kd.R_base T0)) (Kd.R_base e2)) (Kd.R_base f2)) (fun _ h_ => h_.1))
         have m2 := zK (Kd.R_mono (Kd.R_told (Kd.R_told (Kd.R_told (Kd.R_old (zkR N2) hb) (Kd.R_base T0)) (Kd.R_base e2)) (Kd.R_base f2)) (fun _ h_ => h_.1))
         have t2 := zK (Kd.R_mono (Kd.R_told (Kd.R_told (Kd.R_told (Kd.R_old (zkR O2) hb) (Kd.R_base T0)) (Kd.R_base e2)) (Kd.R_base f2)) (fun _ h_ => h_.1))
         have x2 := zK (Kd.R_mono (Kd.R_told (Kd.R_told (Kd.R_told (Kd.R_old (zkR R2) hb) (Kd.R_base T0)) (Kd.R_base e2)) (Kd.R_base f2)) (fun _ h_ => h_.1))
         have O1 := zK (Kd.R_mono (Kd.R_told (Kd.R_told (Kd.R_told (Kd.R_old (zkR g3) hb) (Kd.R_base T0)) (Kd.R_base e2)) (Kd.R_base f2)) (fun _ h_ => h_.1))
         have U1 := zK (Kd.R_lower (Kd.R_new' (Kd.R_new' (Kd.R_new' (Kd.R_new' (Kd.R_new' (Kd.R_new' (Kd.R_new' (Kd.R_new' (Kd.R_new' (Kd.R_new' (Kd.R_new' T0 (Kd.R_lt (zkR d1))) (Kd.R_lt (zkR e1))) (Kd.R_lt (zkR f1))) (Kd.R_lt (zkR I1))) (Kd.R_lt (zkR n2))) (Kd.R_lt (zkR o2))) (Kd.R_lt (zkR q2))) (Kd.R_lt (zkR N2))) (Kd.R_lt (zkR O2))) (Kd.R_lt (zkR R2))) (Kd.R_lt (zkR g3))) (zz zB))
         have V1 := zK (Kd.R_lower (Kd.R_new' (Kd.R_new' (Kd.R_new' (Kd.R_new' (Kd.R_new' (Kd.R_new' (Kd.R_new' (Kd.R_new' (Kd.R_new' (Kd.R_new' (Kd.R_new' e2 (Kd.R_lt (zkR d1))) (Kd.R_lt (zkR e1))) (Kd.R_lt (zkR f1))) (Kd.R_lt (zkR I1))) (Kd.R_lt (zkR n2))) (Kd.R_lt (zkR o2))) (Kd.R_lt (zkR q2))) (Kd.R_lt (zkR N2))) (Kd.R_lt (zkR O2))) (Kd.R_lt (zkR R2))) (Kd.R_lt (zkR g3))) (zz zB))
         have X1 := zK (Kd.R_lower (Kd.R_new' (Kd.R_new' (Kd.R_new' (Kd.R_new' (Kd.R_new' (Kd.R_new' (Kd.R_new' (Kd.R_new' (Kd.R_new' (Kd.R_new' (Kd.R_new' f2 (Kd.R_lt (zkR d1))) (Kd.R_lt (zkR e1))) (Kd.R_lt (zkR f1))) (Kd.R_lt (zkR I1))) (Kd.R_lt (zkR n2))) (Kd.R_lt (zkR o2))) (Kd.R_lt (zkR q2))) (Kd.R_lt (zkR N2))) (Kd.R_lt (zkR O2))) (Kd.R_lt (zkR R2))) (Kd.R_lt (zkR g3))) (zz zB))
         have g2 := z7 a hb
         have B2 := z7 q hb
         have L2 := z7 n0 hb
         have V2 := z7 T hb
         have b3 := z8 hb
         revert R1 S1 T1 a2 b2 d2 i2 m2 t2 x2 O1 U1 V1 X1 g2 B2 L2 V2 b3
         clear d1 e1 f1 I1 n2 o2 q2 N2 O2 R2 g3 a q n0 T HB
         intro d1 e1 f1 I1 n2 o2 q2 N2 O2 R2 g3 y5 A5 B5 a q n0 T HB
         (try clear hb)
         (try clear hb2)
         (try clear hk)
         (try clear hi)
         (try clear T0)
         (try clear e2)
         (try clear f2)
         refine hK.out _ _ ⟨zy a 0, zy a 1, zy a 2, zy a 3, zy a 4, zy a 5, zy a 6, zy a 7, zy a 8, zy a 9, zy a 10, zy T 0, zy T 1, zy T 2, zy T 3, zy T 4, zy T 5⟩ (fun hHeld => ?_)
         clear hK K
         refine zU 46 ?_
         refine zP 5 41 (bl 11 63) HT_ ?_
         refine zP 6 47 (bl 11 127) HT_ ?_
         refine zP 7 48 (bl 11 255) HT_ ?_
         refine one_ (i := 8) (N := some 12) (bl 11 511) rfl rfl (one_of HT_.out (by kernel_rfl)) (by decide) (fun K hK => ?_)
         refine box_step ?hg (N := 12) ?hd (cs := #[.slice none 0 0, .slice none 0 0, .slice none 0 0, .int .i64 0, .int .i64 0, .int .i64 0]) (t := 30) ?hr ?_; (case hd => rfl); (case hg => rfl); (case hr => first | (go_simp; done) | (go_simp; rfl))
         intro M0 hg w64 hbox hb
         have R1 := zK (Kd.R_below (zkR d1) hb)
         have S1 := zK (Kd.R_below (zkR e1) hb)
         have T1 := zK (Kd.R_below (zkR f1) hb)
         have a2 := zK (Kd.R_below (zkR I1) hb)
         have b2 := zK (Kd.R_below (zkR n2) hb)
         have d2 := zK (Kd.R_below (zkR o2) hb)
         have i2 := zK (Kd.R_below (zkR q2) hb)
         have m2 := zK (Kd.R_below (zkR N2) hb)
         have t2 := zK (Kd.R_below (zkR O2) hb)
         have x2 := zK (Kd.R_below (zkR R2) hb)
         have O1 := zK (Kd.R_below (zkR g3) hb)
         have U1 := zK (Kd.R_below (zkR y5) hb)
         have V1 := zK (Kd.R_below (zkR A5) hb)
         have X1 := zK (Kd.R_below (zkR B5) hb)
         have g2 := z7 a hb
         have B2 := z7 q hb
         have L2 := z7 n0 hb
         have V2 := z7 T hb
         have b3 := z8 hb
         have G3 := zK (hbox)
         have p4 := z9 hg
         have q4 := z9 hg
         have V4 := zHH hg a
         have J5 := zGG hg a
         have L5 := zHH hg q
         have M5 := zGG hg q
         have N5 := zHH hg n0
         have f6 := zGG hg n0
         have E7 := zHH hg T
         have F7 := zGG hg T
         revert R1 S1 T1 a2 b2 d2 i2 m2 t2 x2 O1 U1 V1 X1 g2 B2 L2 V2 b3 G3 p4 q4 V4 J5 L5 M5 N5 f6 E7 F7
         clear d1 e1 f1 I1 n2 o2 q2 N2 O2 R2 g3 y5 A5 B5 a q n0 T HB
         intro d1 e1 f1 I1 n2 o2 q2 N2 O2 R2 g3 y5 A5 B5 a q n0 T HB G0 J8 X7 O0 e4 f4 g4 U3 V3 G1 X3
         clear hb hbox hg
         refine hK.out _ _ ⟨zy a 0, zy a 1, zy a 2, zy a 3, zy a 4, zy a 5, zy a 6, zy a 7, zy a 8, zy a 9, zy a 10, zy T 0, zy T 1, zy T 2, zy T 3, zy T 4, zy T 5⟩ (fun hHeld => ?_)
         clear hK K
         refine zU 12 ?_
         exact norm_ (by simp only [putAll, Act.put, zq1, zq2, zq3]) (hCont (v453, v456, v459, M0) _ ⟨hHeld, (zkM (zlR d1.out)), (zkM (zlR e1.out)), (zkM (zlR f1.out)), (zkM (zlR I1.out)), (zkM (zlR n2.out)), (zkM (zlR o2.out)), (zkM (zlR q2.out)), (zkM (zlR N2.out)), (zkM (zlR O2.out)), (zkM (zlR R2.out)), (zkM (zlR g3.out)), (zkM (zlR y5.out)), (zkM (zlR A5.out)), (zkM (zlR B5.out)), (zM a), (zM q), (zM n0), (zM T), (zM G0), J8.out, X7.out, O0.out, e4.out, f4.out, g4.out, U3.out, V3.out, G1.out, X3.out, zB⟩)
       · as_aux_lemma =>
         skip
         refine box_step ?hg (N := 12) ?hd (cs := #[.slice none 0 0, .slice none 0 0, .slice none 0 0, .int .i64 0, .int .i64 0, .int .i64 0]) (t := 30) ?hr ?_; (case hd => rfl); (case hg => rfl); (case hr => first | (go_simp; done) | (go_simp; rfl))
         intro M0 hg w63 hbox hb
         have R1 := zK (Kd.R_below (zkR d1) hb)
         have S1 := zK (Kd.R_below (zkR e1) hb)
         have T1 := zK (Kd.R_below (zkR f1) hb)
         have a2 := zK (Kd.R_below (zkR I1) hb)
         have b2 := zK (Kd.R_below (zkR n2) hb)
         have d2 := zK (Kd.R_below (zkR o2) hb)
         have i2 := zK (Kd.R_below (zkR q2) hb)
         have m2 := zK (Kd.R_below (zkR N2) hb)
         have t2 := zK (Kd.R_below (zkR O2) hb)
         have x2 := zK (Kd.R_below (zkR R2) hb)
         have O1 := zK (Kd.R_below (zkR g3) hb)
         have U1 := z7 a hb
         have V1 := z7 q hb
         have X1 := z7 n0 hb
         have g2 := z7 T hb
         have B2 := z8 hb
         have L2 := zK (hbox)
         have V2 := z9 hg
         have b3 := z9 hg
         have G3 := zHH hg a
         have p4 := zGG hg a
         have q4 := zHH hg q
         have V4 := zGG hg q
         have J5 := zHH hg n0
         have L5 := zGG hg n0
         have M5 := zHH hg T
         have N5 := zGG hg T
         revert R1 S1 T1 a2 b2 d2 i2 m2 t2 x2 O1 U1 V1 X1 g2 B2 L2 V2 b3 G3 p4 q4 V4 J5 L5 M5 N5
         clear d1 e1 f1 I1 n2 o2 q2 N2 O2 R2 g3 a q n0 T HB
         intro d1 e1 f1 I1 n2 o2 q2 N2 O2 R2 g3 a q n0 T HB G0 J8 X7 O0 e4 f4 g4 U3 V3 G1 X3
         clear hb hbox hg
         refine hK.out _ _ ⟨zy a 0, zy a 1, zy a 2, zy a 3, zy a 4, zy a 5, zy a 6, zy a 7, zy a 8, zy a 9, zy a 10, zy T 0, zy T 1, zy T 2, zy T 3, zy T 4, zy T 5⟩ (fun hHeld => ?_)
         clear hK K
         refine zU 12 ?_
         refine one_ (i := 4) (N := some 46) (bl 11 287) rfl rfl (one_of HT_.out (by kernel_rfl)) (by decide) (fun K hK => ?_)
         refine goes_ Try.func12 (by kernel_rfl) rfl #[.agg #[.int .i64 e8, .int .i64 f8, .int .i64 g8, .int .i64 i8, .int .i64 j8, .int .i64 l8, .int .i64 m8, .int .i64 n8, .int .i64 o8, .int .i64 p8, .int .i64 q8], .agg #[.slice E L1.length I, .slice J M1.length L, .slice M N1.length O, .int .i64 N3, .int .i64 O3, .int .i64 R3], .slice T2 J1.length U2] (by rfl) rfl rfl zL ?_
         refine (impl_StepOpt.calls k e8 f8 g8 i8 j8 l8 m8 n8 o8 p8 q8 _ _ L1 _ _ M1 _ _ N1 N3 O3 R3 _ _ J1 U X a0 o3 p3 q3 D7 _ (zC (Kd.R_reads' N2.out).2.2) ((Kd.R_reads' N2.out).2.1) (zC (Kd.R_reads' O2.out).2.2) ((Kd.R_reads' O2.out).2.1) (zC (Kd.R_reads' R2.out).2.2) ((Kd.R_reads' R2.out).2.1) (zC (Kd.R_reads' g3.out).2.2) ((Kd.R_reads' g3.out).2.1) A21.out).mono ?_
         rintro e w64 ⟨v453, v456, v459, rfl, T0, e2, f2, hb⟩
         refine ⟨_, rfl, ?_⟩
         have R1 := zK (Kd.R_mono (Kd.R_told (Kd.R_told (Kd.R_told (Kd.R_old (zkR d1) hb) (Kd.R_base T0)) (Kd.R_base e2)) (Kd.R_base f2)) (fun _ h_ => h_.1))
         have S1 := zK (Kd.R_mono (Kd.R_told (Kd.R_told (Kd.R_told (Kd.R_old (zkR e1) hb) (Kd.R_base T0)) (Kd.R_base e2)) (Kd.R_base f2)) (fun _ h_ => h_.1))
         have T1 := zK (Kd.R_mono (Kd.R_told (Kd.R_told (Kd.R_told (Kd.R_old (zkR f1) hb) (Kd.R_base T0)) (Kd.R_base e2)) (Kd.R_base f2)) (fun _ h_ => h_.1))
         have a2 := zK (Kd.R_mono (Kd.R_told (Kd.R_told (Kd.R_told (Kd.R_old (zkR I1) hb) (Kd.R_base T0)) (Kd.R_base e2)) (Kd.R_base f2)) (fun _ h_ => h_.1))
         have b2 := zK (Kd.R_mono (Kd.R_told (Kd.R_told (Kd.R_told (Kd.R_old (zkR n2) hb) (Kd.R_base T0)) (Kd.R_base e2)) (Kd.R_base f2)) (fun _ h_ => h_.1))
         have d2 := zK (Kd.R_mono (Kd.R_told (Kd.R_told (Kd.R_told (Kd.R_old (zkR o2) hb) (Kd.R_base T0)) (Kd.R_base e2)) (Kd.R_base f2)) (fun _ h_ => h_.1))
         have i2 := zK (Kd.R_mono (Kd.R_told (Kd.R_told (Kd.R_told (Kd.R_old (zkR q2) hb) (Kd.R_base T0)) (Kd.R_base e2)) (Kd.R_base f2)) (fun _ h_ => h_.1))
         have m2 := zK (Kd.R_mono (Kd.R_told (Kd.R_told (Kd.R_told (Kd.R_old (zkR N2) hb) (Kd.R_base T0)) (Kd.R_base e2)) (Kd.R_base f2)) (fun _ h_ => h_.1))
         have t2 := zK (Kd.R_mono (Kd.R_told (Kd.R_told (Kd.R_told (Kd.R_old (zkR O2) hb) (Kd.R_base T0)) (Kd.R_base e2)) (Kd.R_base f2)) (fun _ h_ => h_.1))
         have x2 := zK (Kd.R_mono (Kd.R_told (Kd.R_told (Kd.R_told (Kd.R_old (zkR R2) hb) (Kd.R_base T0)) (Kd.R_base e2)) (Kd.R_base f2)) (fun _ h_ => h_.1))
         have O1 := zK (Kd.R_mono (Kd.R_told (Kd.R_told (Kd.R_told (Kd.R_old (zkR g3) hb) (Kd.R_base T0)) (Kd.R_base e2)) (Kd.R_base f2)) (fun _ h_ => h_.1))
         have U1 := zK (Kd.R_lower (Kd.R_new' (Kd.R_new' (Kd.R_new' (Kd.R_new' (Kd.R_new' (Kd.R_new' (Kd.R_new' (Kd.R_new' (Kd.R_new' (Kd.R_new' (Kd.R_new' T0 (Kd.R_lt (zkR d1))) (Kd.R_lt (zkR e1))) (Kd.R_lt (zkR f1))) (Kd.R_lt (zkR I1))) (Kd.R_lt (zkR n2))) (Kd.R_lt (zkR o2))) (Kd.R_lt (zkR q2))) (Kd.R_lt (zkR N2))) (Kd.R_lt (zkR O2))) (Kd.R_lt (zkR R2))) (Kd.R_lt (zkR g3))) (zz zB))
         have V1 := zK (Kd.R_lower (Kd.R_new' (Kd.R_new' (Kd.R_new' (Kd.R_new' (Kd.R_new' (Kd.R_new' (Kd.R_new' (Kd.R_new' (Kd.R_new' (Kd.R_new' (Kd.R_new' e2 (Kd.R_lt (zkR d1))) (Kd.R_lt (zkR e1))) (Kd.R_lt (zkR f1))) (Kd.R_lt (zkR I1))) (Kd.R_lt (zkR n2))) (Kd.R_lt (zkR o2))) (Kd.R_lt (zkR q2))) (Kd.R_lt (zkR N2))) (Kd.R_lt (zkR O2))) (Kd.R_lt (zkR R2))) (Kd.R_lt (zkR g3))) (zz zB))
         have X1 := zK (Kd.R_lower (Kd.R_new' (Kd.R_new' (Kd.R_new' (Kd.R_new' (Kd.R_new' (Kd.R_new' (Kd.R_new' (Kd.R_new' (Kd.R_new' (Kd.R_new' (Kd.R_new' f2 (Kd.R_lt (zkR d1))) (Kd.R_lt (zkR e1))) (Kd.R_lt (zkR f1))) (Kd.R_lt (zkR I1))) (Kd.R_lt (zkR n2))) (Kd.R_lt (zkR o2))) (Kd.R_lt (zkR q2))) (Kd.R_lt (zkR N2))) (Kd.R_lt (zkR O2))) (Kd.R_lt (zkR R2))) (Kd.R_lt (zkR g3))) (zz zB))
         have g2 := z7 a hb
         have B2 := z7 q hb
         have L2 := z7 n0 hb
         have V2 := z7 T hb
         have b3 := z7 G0 hb
         have G3 := z8 hb
         revert R1 S1 T1 a2 b2 d2 i2 m2 t2 x2 O1 U1 V1 X1 g2 B2 L2 V2 b3 G3
         clear d1 e1 f1 I1 n2 o2 q2 N2 O2 R2 g3 a q n0 T G0 HB
         intro d1 e1 f1 I1 n2 o2 q2 N2 O2 R2 g3 y5 A5 B5 a q n0 T G0 HB
         (try clear hb)
         (try clear hb2)
         (try clear hk)
         (try clear hi)
         (try clear T0)
         (try clear e2)
         (try clear f2)
         refine hK.out _ _ ⟨zy a 0, zy a 1, zy a 2, zy a 3, zy a 4, zy a 5, zy a 6, zy a 7, zy a 8, zy a 9, zy a 10, zy T 0, zy T 1, zy T 2, zy T 3, zy T 4, zy T 5⟩ (fun hHeld => ?_)
         clear hK K
         refine zU 46 ?_
         refine zP 5 41 (bl 11 319) HT_ ?_
         refine zP 6 47 (bl 11 383) HT_ ?_
         refine zP 7 48 (bl 11 511) HT_ ?_
         exact norm_ (by simp only [putAll, Act.put, zq1, zq2, zq3]) (hCont (v453, v456, v459, M0) _ ⟨hHeld, (zkM (zlR d1.out)), (zkM (zlR e1.out)), (zkM (zlR f1.out)), (zkM (zlR I1.out)), (zkM (zlR n2.out)), (zkM (zlR o2.out)), (zkM (zlR q2.out)), (zkM (zlR N2.out)), (zkM (zlR O2.out)), (zkM (zlR R2.out)), (zkM (zlR g3.out)), (zkM (zlR y5.out)), (zkM (zlR A5.out)), (zkM (zlR B5.out)), (zM a), (zM q), (zM n0), (zM T), (zM G0), J8.out, X7.out, O0.out, e4.out, f4.out, g4.out, U3.out, V3.out, G1.out, X3.out, zB⟩)
     · as_aux_lemma =>
       skip
       refine box_step ?hg (N := 12) ?hd (cs := #[.slice none 0 0, .slice none 0 0, .slice none 0 0, .int .i64 0, .int .i64 0, .int .i64 0]) (t := 30) ?hr ?_; (case hd => rfl); (case hg => rfl); (case hr => first | (go_simp; done) | (go_simp; rfl))
       intro M0 hg w62 hbox hb
       have R1 := zK (Kd.R_below (zkR d1) hb)
       have S1 := zK (Kd.R_below (zkR e1) hb)
       have T1 := zK (Kd.R_below (zkR f1) hb)
       have a2 := zK (Kd.R_below (zkR I1) hb)
       have b2 := zK (Kd.R_below (zkR n2) hb)
       have d2 := zK (Kd.R_below (zkR o2) hb)
       have i2 := zK (Kd.R_below (zkR q2) hb)
       have m2 := zK (Kd.R_below (zkR N2) hb)
       have t2 := zK (Kd.R_below (zkR O2) hb)
       have x2 := zK (Kd.R_below (zkR R2) hb)
       have O1 := zK (Kd.R_below (zkR g3) hb)
       have U1 := z7 a hb
       have V1 := z7 q hb
       have X1 := z7 n0 hb
       have g2 := z7 T hb
       have B2 := z8 hb
       have L2 := zK (hbox)
       have V2 := z9 hg
       have b3 := z9 hg
       have G3 := zHH hg a
       have p4 := zGG hg a
       have q4 := zHH hg q
       have V4 := zGG hg q
       have J5 := zHH hg n0
       have L5 := zGG hg n0
       have M5 := zHH hg T
       have N5 := zGG hg T
       revert R1 S1 T1 a2 b2 d2 i2 m2 t2 x2 O1 U1 V1 X1 g2 B2 L2 V2 b3 G3 p4 q4 V4 J5 L5 M5 N5
       clear d1 e1 f1 I1 n2 o2 q2 N2 O2 R2 g3 a q n0 T HB
       intro d1 e1 f1 I1 n2 o2 q2 N2 O2 R2 g3 a q n0 T HB G0 J8 X7 O0 e4 f4 g4 U3 V3 G1 X3
       clear hb hbox hg
       refine hK.out _ _ ⟨zy a 0, zy a 1, zy a 2, zy a 3, zy a 4, zy a 5, zy a 6, zy a 7, zy a 8, zy a 9, zy a 10, zy T 0, zy T 1, zy T 2, zy T 3, zy T 4, zy T 5⟩ (fun hHeld => ?_)
       clear hK K
       refine zU 12 ?_
       refine one_ (i := 1) (N := some 43) (bl 11 271) rfl rfl (one_of HT_.out (by kernel_rfl)) (by decide) (fun K hK => ?_)
       refine goes_ Try.func9 (by kernel_rfl) rfl #[.agg #[.int .i64 p1, .int .i64 q1, .int .i64 t1, .int .i64 x1, .int .i64 y1, .int .i64 A1, .int .i64 B1, .int .i64 C1, .int .i64 D1, .int .i64 E1, .int .i64 S0]] (by rfl) rfl rfl zL ?_
       with_reducible refine (laws_toRule.calls p1 q1 t1 x1 y1 A1 B1 C1 D1 E1 S0 e8 f8 g8 i8 j8 l8 m8 n8 o8 p8 q8 _ A20.out).mono ?_
       rintro e w63 ⟨rfl, hb⟩
       refine ⟨_, rfl, ?_⟩
       have R1 := zK (Kd.R_below (zkR d1) hb)
       have S1 := zK (Kd.R_below (zkR e1) hb)
       have T1 := zK (Kd.R_below (zkR f1) hb)
       have a2 := zK (Kd.R_below (zkR I1) hb)
       have b2 := zK (Kd.R_below (zkR n2) hb)
       have d2 := zK (Kd.R_below (zkR o2) hb)
       have i2 := zK (Kd.R_below (zkR q2) hb)
       have m2 := zK (Kd.R_below (zkR N2) hb)
       have t2 := zK (Kd.R_below (zkR O2) hb)
       have x2 := zK (Kd.R_below (zkR R2) hb)
       have O1 := zK (Kd.R_below (zkR g3) hb)
       have U1 := z7 a hb
       have V1 := z7 q hb
       have X1 := z7 n0 hb
       have g2 := z7 T hb
       have B2 := z7 G0 hb
       have L2 := z8 hb
       revert R1 S1 T1 a2 b2 d2 i2 m2 t2 x2 O1 U1 V1 X1 g2 B2 L2
       clear d1 e1 f1 I1 n2 o2 q2 N2 O2 R2 g3 a q n0 T G0 HB
       intro d1 e1 f1 I1 n2 o2 q2 N2 O2 R2 g3 a q n0 T G0 HB
       (try clear hb)
       (try clear hb2)
       (try clear hk)
       (try clear hi)
       refine hK.out _ _ ⟨zy a 0, zy a 1, zy a 2, zy a 3, zy a 4, zy a 5, zy a 6, zy a 7, zy a 8, zy a 9, zy a 10, zy T 0, zy T 1, zy T 2, zy T 3, zy T 4, zy T 5⟩ (fun hHeld => ?_)
       clear hK K
       refine zU 43 ?_
       refine one_ (i := 4) (N := some 46) (bl 11 287) rfl rfl (one_of HT_.out (by kernel_rfl)) (by decide) (fun K hK => ?_)
       refine goes_ Try.func12 (by kernel_rfl) rfl #[.agg #[.int .i64 e8, .int .i64 f8, .int .i64 g8, .int .i64 i8, .int .i64 j8, .int .i64 l8, .int .i64 m8, .int .i64 n8, .int .i64 o8, .int .i64 p8, .int .i64 q8], .agg #[.slice E L1.length I, .slice J M1.length L, .slice M N1.length O, .int .i64 N3, .int .i64 O3, .int .i64 R3], .slice T2 J1.length U2] (by rfl) rfl rfl zL ?_
       refine (impl_StepOpt.calls k e8 f8 g8 i8 j8 l8 m8 n8 o8 p8 q8 _ _ L1 _ _ M1 _ _ N1 N3 O3 R3 _ _ J1 U X a0 o3 p3 q3 D7 _ (zC (Kd.R_reads' N2.out).2.2) ((Kd.R_reads' N2.out).2.1) (zC (Kd.R_reads' O2.out).2.2) ((Kd.R_reads' O2.out).2.1) (zC (Kd.R_reads' R2.out).2.2) ((Kd.R_reads' R2.out).2.1) (zC (Kd.R_reads' g3.out).2.2) ((Kd.R_reads' g3.out).2.1) A21.out).mono ?_
       rintro e w64 ⟨v453, v456, v459, rfl, T0, e2, f2, hb⟩
       refine ⟨_, rfl, ?_⟩
       have R1 := zK (Kd.R_mono (Kd.R_told (Kd.R_told (Kd.R_told (Kd.R_old (zkR d1) hb) (Kd.R_base T0)) (Kd.R_base e2)) (Kd.R_base f2)) (fun _ h_ => h_.1))
       have S1 := zK (Kd.R_mono (Kd.R_told (Kd.R_told (Kd.R_told (Kd.R_old (zkR e1) hb) (Kd.R_base T0)) (Kd.R_base e2)) (Kd.R_base f2)) (fun _ h_ => h_.1))
       have T1 := zK (Kd.R_mono (Kd.R_told (Kd.R_told (Kd.R_told (Kd.R_old (zkR f1) hb) (Kd.R_base T0)) (Kd.R_base e2)) (Kd.R_base f2)) (fun _ h_ => h_.1))
       have a2 := zK (Kd.R_mono (Kd.R_told (Kd.R_told (Kd.R_told (Kd.R_old (zkR I1) hb) (Kd.R_base T0)) (Kd.R_base e2)) (Kd.R_base f2)) (fun _ h_ => h_.1))
       have b2 := zK (Kd.R_mono (Kd.R_told (Kd.R_told (Kd.R_told (Kd.R_old (zkR n2) hb) (Kd.R_base T0)) (Kd.R_base e2)) (Kd.R_base f2)) (fun _ h_ => h_.1))
       have d2 := zK (Kd.R_mono (Kd.R_told (Kd.R_told (Kd.R_told (Kd.R_old (zkR o2) hb) (Kd.R_base T0)) (Kd.R_base e2)) (Kd.R_base f2)) (fun _ h_ => h_.1))
       have i2 := zK (Kd.R_mono (Kd.R_told (Kd.R_told (Kd.R_told (Kd.R_old (zkR q2) hb) (Kd.R_base T0)) (Kd.R_base e2)) (Kd.R_base f2)) (fun _ h_ => h_.1))
       have m2 := zK (Kd.R_mono (Kd.R_told (Kd.R_told (Kd.R_told (Kd.R_old (zkR N2) hb) (Kd.R_base T0)) (Kd.R_base e2)) (Kd.R_base f2)) (fun _ h_ => h_.1))
       have t2 := zK (Kd.R_mono (Kd.R_told (Kd.R_told (Kd.R_told (Kd.R_old (zkR O2) hb) (Kd.R_base T0)) (Kd.R_base e2)) (Kd.R_base f2)) (fun _ h_ => h_.1))
       have x2 := zK (Kd.R_mono (Kd.R_told (Kd.R_told (Kd.R_told (Kd.R_old (zkR R2) hb) (Kd.R_base T0)) (Kd.R_base e2)) (Kd.R_base f2)) (fun _ h_ => h_.1))
       have O1 := zK (Kd.R_mono (Kd.R_told (Kd.R_told (Kd.R_told (Kd.R_old (zkR g3) hb) (Kd.R_base T0)) (Kd.R_base e2)) (Kd.R_base f2)) (fun _ h_ => h_.1))
       have U1 := zK (Kd.R_lower (Kd.R_new' (Kd.R_new' (Kd.R_new' (Kd.R_new' (Kd.R_new' (Kd.R_new' (Kd.R_new' (Kd.R_new' (Kd.R_new' (Kd.R_new' (Kd.R_new' T0 (Kd.R_lt (zkR d1))) (Kd.R_lt (zkR e1))) (Kd.R_lt (zkR f1))) (Kd.R_lt (zkR I1))) (Kd.R_lt (zkR n2))) (Kd.R_lt (zkR o2))) (Kd.R_lt (zkR q2))) (Kd.R_lt (zkR N2))) (Kd.R_lt (zkR O2))) (Kd.R_lt (zkR R2))) (Kd.R_lt (zkR g3))) (zz zB))
       have V1 := zK (Kd.R_lower (Kd.R_new' (Kd.R_new' (Kd.R_new' (Kd.R_new' (Kd.R_new' (Kd.R_new' (Kd.R_new' (Kd.R_new' (Kd.R_new' (Kd.R_new' (Kd.R_new' e2 (Kd.R_lt (zkR d1))) (Kd.R_lt (zkR e1))) (Kd.R_lt (zkR f1))) (Kd.R_lt (zkR I1))) (Kd.R_lt (zkR n2))) (Kd.R_lt (zkR o2))) (Kd.R_lt (zkR q2))) (Kd.R_lt (zkR N2))) (Kd.R_lt (zkR O2))) (Kd.R_lt (zkR R2))) (Kd.R_lt (zkR g3))) (zz zB))
       have X1 := zK (Kd.R_lower (Kd.R_new' (Kd.R_new' (Kd.R_new' (Kd.R_new' (Kd.R_new' (Kd.R_new' (Kd.R_new' (Kd.R_new' (Kd.R_new' (Kd.R_new' (Kd.R_new' f2 (Kd.R_lt (zkR d1))) (Kd.R_lt (zkR e1))) (Kd.R_lt (zkR f1))) (Kd.R_lt (zkR I1))) (Kd.R_lt (zkR n2))) (Kd.R_lt (zkR o2))) (Kd.R_lt (zkR q2))) (Kd.R_lt (zkR N2))) (Kd.R_lt (zkR O2))) (Kd.R_lt (zkR R2))) (Kd.R_lt (zkR g3))) (zz zB))
       have g2 := z7 a hb
       have B2 := z7 q hb
       have L2 := z7 n0 hb
       have V2 := z7 T hb
       have b3 := z7 G0 hb
       have G3 := z8 hb
       revert R1 S1 T1 a2 b2 d2 i2 m2 t2 x2 O1 U1 V1 X1 g2 B2 L2 V2 b3 G3
       clear d1 e1 f1 I1 n2 o2 q2 N2 O2 R2 g3 a q n0 T G0 HB
       intro d1 e1 f1 I1 n2 o2 q2 N2 O2 R2 g3 y5 A5 B5 a q n0 T G0 HB
       (try clear hb)
       (try clear hb2)
       (try clear hk)
       (try clear hi)
       (try clear T0)
       (try clear e2)
       (try clear f2)
       refine hK.out _ _ ⟨zy a 0, zy a 1, zy a 2, zy a 3, zy a 4, zy a 5, zy a 6, zy a 7, zy a 8, zy a 9, zy a 10, zy T 0, zy T 1, zy T 2, zy T 3, zy T 4, zy T 5⟩ (fun hHeld => ?_)
       clear hK K
       refine zU 46 ?_
       refine zP 5 41 (bl 11 319) HT_ ?_
       refine zP 6 47 (bl 11 383) HT_ ?_
       refine zP 7 48 (bl 11 511) HT_ ?_
       exact norm_ (by simp only [putAll, Act.put, zq1, zq2, zq3]) (hCont (v453, v456, v459, M0) _ ⟨hHeld, (zkM (zlR d1.out)), (zkM (zlR e1.out)), (zkM (zlR f1.out)), (zkM (zlR I1.out)), (zkM (zlR n2.out)), (zkM (zlR o2.out)), (zkM (zlR q2.out)), (zkM (zlR N2.out)), (zkM (zlR O2.out)), (zkM (zlR R2.out)), (zkM (zlR g3.out)), (zkM (zlR y5.out)), (zkM (zlR A5.out)), (zkM (zlR B5.out)), (zM a), (zM q), (zM n0), (zM T), (zM G0), J8.out, X7.out, O0.out, e4.out, f4.out, g4.out, U3.out, V3.out, G1.out, X3.out, zB⟩)
   rintro ⟨v453, v456, v459, M0⟩ d5 ⟨hS_, a4, b4, d4, m4, n4, o4, F4, R4, S4, T4, C4, D4, E4, U4, c5, f5, g5, U5, g6, x6, y6, A6, E6, F6, G6, I6, J6, L6, a8, b8⟩
   try dsimp only at hS_ a4 b4 d4 m4 n4 o4 F4 R4 S4 T4 C4 D4 E4 U4 c5 f5 g5 U5 g6 x6 y6 A6 E6 F6 G6 I6 J6 L6 a8 b8
   have R1 := zK a4
   have S1 := zK b4
   have T1 := zK d4
   have a2 := zK m4
   have b2 := zK n4
   have d2 := zK o4
   have i2 := zK F4
   have m2 := zK R4
   have t2 := zK S4
   have x2 := zK T4
   have O1 := zK C4
   have U1 := zK D4
   have V1 := zK E4
   have X1 := zK U4
   have g2 := zK c5
   have B2 := zK f5
   have L2 := zK g5
   have V2 := zK U5
   have b3 := zK g6
   have G3 := zK x6
   have p4 := zK y6
   have q4 := zK A6
   have V4 := zK E6
   have J5 := zK F6
   have L5 := zK G6
   have M5 := zK I6
   have N5 := zK J6
   have f6 := zK L6
   have E7 := zK a8
   have F7 := zK b8
   clear d1
   clear e1
   clear f1
   clear I1
   clear n2
   clear o2
   clear q2
   clear N2
   clear O2
   clear R2
   clear g3
   clear a
   clear q
   clear n0
   clear T
   clear HB
   clear a4 b4 d4 m4 n4 o4 F4 R4 S4 T4 C4 D4 E4 U4 c5 f5 g5 U5 g6 x6 y6 A6 E6 F6 G6 I6 J6 L6 a8 b8
   revert R1 S1 T1 a2 b2 d2 i2 m2 t2 x2 O1 U1 V1 X1 g2 B2 L2 V2 b3 G3 p4 q4 V4 J5 L5 M5 N5 f6 E7 F7
   intro d1 e1 f1 I1 n2 o2 q2 N2 O2 R2 g3 y5 A5 B5 a q n0 T G0 J8 X7 O0 e4 f4 g4 U3 V3 G1 X3 HB
   have hHeld := hS_
   obtain ⟨A0, t0, b2m⟩ := Kd.R_slice y5.out
   (first | subst b2m | (injection b2m with f1_ f2_ f3_; have f4_ := f1_.symm; have f5_ := f3_.symm; clear f1_ f2_ f3_; subst f4_; subst f5_))
   obtain ⟨B0, x0, b2n⟩ := Kd.R_slice A5.out
   (first | subst b2n | (injection b2n with f1_ f2_ f3_; have f4_ := f1_.symm; have f5_ := f3_.symm; clear f1_ f2_ f3_; subst f4_; subst f5_))
   obtain ⟨C0, y0, b2o⟩ := Kd.R_slice B5.out
   (first | subst b2o | (injection b2o with f1_ f2_ f3_; have f4_ := f1_.symm; have f5_ := f3_.symm; clear f1_ f2_ f3_; subst f4_; subst f5_))
   refine norm_ (a' := ?_) ?_ ?_
   rotate_left
   · simp only [putAll, Act.put, zq1, zq2, zq3]
     rfl
   refine one_ (i := 9) (N := none) (bl 11 1023) rfl rfl (one_of HT_.out (by kernel_rfl)) (by decide) (fun K hK => ?_)
   have c7f : d5.cell? ⟨M0, 0, none⟩ = some (.slice none 0 0) := zy G0 0
   have hfs67 := zf G0.out 0
   have hns67_0 := O0.out
   have hns67_1 := f4.out
   have hns67_2 := U3.out
   have hns67_3 := G1.out
   have hms67_0 := e4.out
   have hms67_1 := g4.out
   have hms67_2 := V3.out
   have hms67_3 := X3.out
   have c7g : d5.cell? ⟨M0, 1, none⟩ = some (.slice none 0 0) := zy G0 1
   have hfs69 := zf G0.out 1
   have hns69_0 := O0.out
   have hns69_1 := f4.out
   have hns69_2 := U3.out
   have hns69_3 := G1.out
   have hms69_0 := e4.out
   have hms69_1 := g4.out
   have hms69_2 := V3.out
   have hms69_3 := X3.out
   have c7j : d5.cell? ⟨M0, 2, none⟩ = some (.slice none 0 0) := zy G0 2
   have hfs71 := zf G0.out 2
   have hns71_0 := O0.out
   have hns71_1 := f4.out
   have hns71_2 := U3.out
   have hns71_3 := G1.out
   have hms71_0 := e4.out
   have hms71_1 := g4.out
   have hms71_2 := V3.out
   have hms71_3 := X3.out
   have c7l : d5.cell? ⟨M0, 3, none⟩ = some (.int .i64 0) := zy G0 3
   have hfs72 := zf G0.out 3
   have hns72_0 := O0.out
   have hns72_1 := f4.out
   have hns72_2 := U3.out
   have hns72_3 := G1.out
   have hms72_0 := e4.out
   have hms72_1 := g4.out
   have hms72_2 := V3.out
   have hms72_3 := X3.out
   have c7m : d5.cell? ⟨M0, 4, none⟩ = some (.int .i64 0) := zy G0 4
   have hfs73 := zf G0.out 4
   have hns73_0 := O0.out
   have hns73_1 := f4.out
   have hns73_2 := U3.out
   have hns73_3 := G1.out
   have hms73_0 := e4.out
   have hms73_1 := g4.out
   have hms73_2 := V3.out
   have hms73_3 := X3.out
   have c7n : d5.cell? ⟨M0, 5, none⟩ = some (.int .i64 0) := zy G0 5
   have hfs74 := zf G0.out 5
   have hns74_0 := O0.out
   have hns74_1 := f4.out
   have hns74_2 := U3.out
   have hns74_3 := G1.out
   have hms74_0 := e4.out
   have hms74_1 := g4.out
   have hms74_2 := V3.out
   have hms74_3 := X3.out
   refine skip_ (w1 := ?_) (by rfl) rfl ?_ ?_
   rotate_left
   · go_simp
     rfl
   refine hK.out _ _ ⟨((cell_far (p := ⟨M0, _, none⟩) O0.out _).trans (((cell_far (p := ⟨M0, _, none⟩) O0.out _).trans (((cell_far (p := ⟨M0, _, none⟩) O0.out _).trans (((cell_far (p := ⟨M0, _, none⟩) O0.out _).trans (((cell_far (p := ⟨M0, _, none⟩) O0.out _).trans (((cell_far (p := ⟨M0, _, none⟩) O0.out _).trans (hHeld.1)))))))))))), ((cell_far (p := ⟨M0, _, none⟩) O0.out _).trans (((cell_far (p := ⟨M0, _, none⟩) O0.out _).trans (((cell_far (p := ⟨M0, _, none⟩) O0.out _).trans (((cell_far (p := ⟨M0, _, none⟩) O0.out _).trans (((cell_far (p := ⟨M0, _, none⟩) O0.out _).trans (((cell_far (p := ⟨M0, _, none⟩) O0.out _).trans (hHeld.2.1)))))))))))), ((cell_far (p := ⟨M0, _, none⟩) O0.out _).trans (((cell_far (p := ⟨M0, _, none⟩) O0.out _).trans (((cell_far (p := ⟨M0, _, none⟩) O0.out _).trans (((cell_far (p := ⟨M0, _, none⟩) O0.out _).trans (((cell_far (p := ⟨M0, _, none⟩) O0.out _).trans (((cell_far (p := ⟨M0, _, none⟩) O0.out _).trans (hHeld.2.2.1)))))))))))), ((cell_far (p := ⟨M0, _, none⟩) O0.out _).trans (((cell_far (p := ⟨M0, _, none⟩) O0.out _).trans (((cell_far (p := ⟨M0, _, none⟩) O0.out _).trans (((cell_far (p := ⟨M0, _, none⟩) O0.out _).trans (((cell_far (p := ⟨M0, _, none⟩) O0.out _).trans (((cell_far (p := ⟨M0, _, none⟩) O0.out _).trans (hHeld.2.2.2.1)))))))))))), ((cell_far (p := ⟨M0, _, none⟩) O0.out _).trans (((cell_far (p := ⟨M0, _, none⟩) O0.out _).trans (((cell_far (p := ⟨M0, _, none⟩) O0.out _).trans (((cell_far (p := ⟨M0, _, none⟩) O0.out _).trans (((cell_far (p := ⟨M0, _, none⟩) O0.out _).trans (((cell_far (p := ⟨M0, _, none⟩) O0.out _).trans (hHeld.2.2.2.2.1)))))))))))), ((cell_far (p := ⟨M0, _, none⟩) O0.out _).trans (((cell_far (p := ⟨M0, _, none⟩) O0.out _).trans (((cell_far (p := ⟨M0, _, none⟩) O0.out _).trans (((cell_far (p := ⟨M0, _, none⟩) O0.out _).trans (((cell_far (p := ⟨M0, _, none⟩) O0.out _).trans (((cell_far (p := ⟨M0, _, none⟩) O0.out _).trans (hHeld.2.2.2.2.2.1)))))))))))), ((cell_far (p := ⟨M0, _, none⟩) O0.out _).trans (((cell_far (p := ⟨M0, _, none⟩) O0.out _).trans (((cell_far (p := ⟨M0, _, none⟩) O0.out _).trans (((cell_far (p := ⟨M0, _, none⟩) O0.out _).trans (((cell_far (p := ⟨M0, _, none⟩) O0.out _).trans (((cell_far (p := ⟨M0, _, none⟩) O0.out _).trans (hHeld.2.2.2.2.2.2.1)))))))))))), ((cell_far (p := ⟨M0, _, none⟩) O0.out _).trans (((cell_far (p := ⟨M0, _, none⟩) O0.out _).trans (((cell_far (p := ⟨M0, _, none⟩) O0.out _).trans (((cell_far (p := ⟨M0, _, none⟩) O0.out _).trans (((cell_far (p := ⟨M0, _, none⟩) O0.out _).trans (((cell_far (p := ⟨M0, _, none⟩) O0.out _).trans (hHeld.2.2.2.2.2.2.2.1)))))))))))), ((cell_far (p := ⟨M0, _, none⟩) O0.out _).trans (((cell_far (p := ⟨M0, _, none⟩) O0.out _).trans (((cell_far (p := ⟨M0, _, none⟩) O0.out _).trans (((cell_far (p := ⟨M0, _, none⟩) O0.out _).trans (((cell_far (p := ⟨M0, _, none⟩) O0.out _).trans (((cell_far (p := ⟨M0, _, none⟩) O0.out _).trans (hHeld.2.2.2.2.2.2.2.2.1)))))))))))), ((cell_far (p := ⟨M0, _, none⟩) O0.out _).trans (((cell_far (p := ⟨M0, _, none⟩) O0.out _).trans (((cell_far (p := ⟨M0, _, none⟩) O0.out _).trans (((cell_far (p := ⟨M0, _, none⟩) O0.out _).trans (((cell_far (p := ⟨M0, _, none⟩) O0.out _).trans (((cell_far (p := ⟨M0, _, none⟩) O0.out _).trans (hHeld.2.2.2.2.2.2.2.2.2.1)))))))))))), ((cell_far (p := ⟨M0, _, none⟩) O0.out _).trans (((cell_far (p := ⟨M0, _, none⟩) O0.out _).trans (((cell_far (p := ⟨M0, _, none⟩) O0.out _).trans (((cell_far (p := ⟨M0, _, none⟩) O0.out _).trans (((cell_far (p := ⟨M0, _, none⟩) O0.out _).trans (((cell_far (p := ⟨M0, _, none⟩) O0.out _).trans (hHeld.2.2.2.2.2.2.2.2.2.2.1)))))))))))), ((cell_far (p := ⟨M0, _, none⟩) G1.out _).trans (((cell_far (p := ⟨M0, _, none⟩) G1.out _).trans (((cell_far (p := ⟨M0, _, none⟩) G1.out _).trans (((cell_far (p := ⟨M0, _, none⟩) G1.out _).trans (((cell_far (p := ⟨M0, _, none⟩) G1.out _).trans (((cell_far (p := ⟨M0, _, none⟩) G1.out _).trans (hHeld.2.2.2.2.2.2.2.2.2.2.2.1)))))))))))), ((cell_far (p := ⟨M0, _, none⟩) G1.out _).trans (((cell_far (p := ⟨M0, _, none⟩) G1.out _).trans (((cell_far (p := ⟨M0, _, none⟩) G1.out _).trans (((cell_far (p := ⟨M0, _, none⟩) G1.out _).trans (((cell_far (p := ⟨M0, _, none⟩) G1.out _).trans (((cell_far (p := ⟨M0, _, none⟩) G1.out _).trans (hHeld.2.2.2.2.2.2.2.2.2.2.2.2.1)))))))))))), ((cell_far (p := ⟨M0, _, none⟩) G1.out _).trans (((cell_far (p := ⟨M0, _, none⟩) G1.out _).trans (((cell_far (p := ⟨M0, _, none⟩) G1.out _).trans (((cell_far (p := ⟨M0, _, none⟩) G1.out _).trans (((cell_far (p := ⟨M0, _, none⟩) G1.out _).trans (((cell_far (p := ⟨M0, _, none⟩) G1.out _).trans (hHeld.2.2.2.2.2.2.2.2.2.2.2.2.2.1)))))))))))), ((cell_far (p := ⟨M0, _, none⟩) G1.out _).trans (((cell_far (p := ⟨M0, _, none⟩) G1.out _).trans (((cell_far (p := ⟨M0, _, none⟩) G1.out _).trans (((cell_far (p := ⟨M0, _, none⟩) G1.out _).trans (((cell_far (p := ⟨M0, _, none⟩) G1.out _).trans (((cell_far (p := ⟨M0, _, none⟩) G1.out _).trans (hHeld.2.2.2.2.2.2.2.2.2.2.2.2.2.2.1)))))))))))), ((cell_far (p := ⟨M0, _, none⟩) G1.out _).trans (((cell_far (p := ⟨M0, _, none⟩) G1.out _).trans (((cell_far (p := ⟨M0, _, none⟩) G1.out _).trans (((cell_far (p := ⟨M0, _, none⟩) G1.out _).trans (((cell_far (p := ⟨M0, _, none⟩) G1.out _).trans (((cell_far (p := ⟨M0, _, none⟩) G1.out _).trans (hHeld.2.2.2.2.2.2.2.2.2.2.2.2.2.2.2.1)))))))))))), ((cell_far (p := ⟨M0, _, none⟩) G1.out _).trans (((cell_far (p := ⟨M0, _, none⟩) G1.out _).trans (((cell_far (p := ⟨M0, _, none⟩) G1.out _).trans (((cell_far (p := ⟨M0, _, none⟩) G1.out _).trans (((cell_far (p := ⟨M0, _, none⟩) G1.out _).trans (((cell_far (p := ⟨M0, _, none⟩) G1.out _).trans (hHeld.2.2.2.2.2.2.2.2.2.2.2.2.2.2.2.2))))))))))))⟩ (fun hHeld => ?_)
   clear hK K
   refine zP 10 13 (bl 11 2047) HT_ ?_
   refine done_ (done_of HT_.out (by kernel_rfl)) ?_
   generalize hW_ : (World.setCell (World.setCell (World.setCell (World.setCell (World.setCell (World.setCell _ ⟨M0, 0, none⟩ _) ⟨M0, 1, none⟩ _) ⟨M0, 2, none⟩ _) ⟨M0, 3, none⟩ _) ⟨M0, 4, none⟩ _) ⟨M0, 5, none⟩ _) = w6_
   have y5 := zT7 hW_ y5.out G0.out (by decide)
   have A5 := zT7 hW_ A5.out G0.out (by decide)
   have B5 := zT7 hW_ B5.out G0.out (by decide)
   have n2 := zT7 hW_ n2.out G0.out (by decide)
   have o2 := zT7 hW_ o2.out G0.out (by decide)
   have q2 := zT7 hW_ q2.out G0.out (by decide)
   have d1 := zT7 hW_ d1.out G0.out (by decide)
   have e1 := zT7 hW_ e1.out G0.out (by decide)
   have f1 := zT7 hW_ f1.out G0.out (by decide)
   have I1 := zT7 hW_ I1.out G0.out (by decide)
   have N2 := zT7 hW_ N2.out G0.out (by decide)
   have O2 := zT7 hW_ O2.out G0.out (by decide)
   have R2 := zT7 hW_ R2.out G0.out (by decide)
   have g3 := zT7 hW_ g3.out G0.out (by decide)
   have a := zB7 hW_ a.out (Aside0.out (by assumption))
   have q := zB7 hW_ q.out (Aside0.out (by assumption))
   have n0 := zB7 hW_ n0.out (Aside0.out (by assumption))
   have T := zB7 hW_ T.out (Aside0.out (by assumption))
   have HB := zH7 hW_ HB.out (Aside0.out (by assumption))
   have G0 := zS7 hW_ G0.out
   clear hW_
   go_upto_region 11 with (fail)
   go_cut [57] (fun v57 wc => ∃ (kq : Nat) (T8 : Bool), v57 = .bool T8 ∧ Aside0 (laws_FnExactStepOpt.j0 kq l2 i4 J1 D7 T8 p1 q1 t1 x1 y1 A1 B1 C1 D1 E1 S0 g1 i1 l1 m1 n1 o1 u x y c3 d3 e3 L1 M1 N1 N3 O3 R3 U X a0 o3 p3 q3 = some true) ∧ Aside0 (kq ≤ k) ∧ Aside0 (Kd.R (Kd.int .i64) 3 wc w.heap.size (fun k_ => zo (.slice i0 u.length b0) k_ ∧ zo (.slice l0 x.length c0) k_ ∧ zo (.slice m0 y.length d0) k_ ∧ zo (.slice E L1.length I) k_ ∧ zo (.slice J M1.length L) k_ ∧ zo (.slice M N1.length O) k_ ∧ zo (.slice A0 U.length t0) k_ ∧ zo (.slice B0 X.length x0) k_ ∧ zo (.slice C0 a0.length y0) k_) (.slice T2 J1.length U2) J1) ∧ Aside0 (Kd.R (Kd.int .i64) 3 wc w.heap.size (fun k_ => zo (.slice T2 J1.length U2) k_ ∧ zo (.slice l0 x.length c0) k_ ∧ zo (.slice m0 y.length d0) k_ ∧ zo (.slice E L1.length I) k_ ∧ zo (.slice J M1.length L) k_ ∧ zo (.slice M N1.length O) k_ ∧ zo (.slice A0 U.length t0) k_ ∧ zo (.slice B0 X.length x0) k_ ∧ zo (.slice C0 a0.length y0) k_) (.slice i0 u.length b0) u) ∧ Aside0 (Kd.R (Kd.int .i64) 3 wc w.heap.size (fun k_ => zo (.slice T2 J1.length U2) k_ ∧ zo (.slice i0 u.length b0) k_ ∧ zo (.slice m0 y.length d0) k_ ∧ zo (.slice E L1.length I) k_ ∧ zo (.slice J M1.length L) k_ ∧ zo (.slice M N1.length O) k_ ∧ zo (.slice A0 U.length t0) k_ ∧ zo (.slice B0 X.length x0) k_ ∧ zo (.slice C0 a0.length y0) k_) (.slice l0 x.length c0) x) ∧ Aside0 (Kd.R (Kd.int .i64) 3 wc w.heap.size (fun k_ => zo (.slice T2 J1.length U2) k_ ∧ zo (.slice i0 u.length b0) k_ ∧ zo (.slice l0 x.length c0) k_ ∧ zo (.slice E L1.length I) k_ ∧ zo (.slice J M1.length L) k_ ∧ zo (.slice M N1.length O) k_ ∧ zo (.slice A0 U.length t0) k_ ∧ zo (.slice B0 X.length x0) k_ ∧ zo (.slice C0 a0.length y0) k_) (.slice m0 y.length d0) y) ∧ Aside0 (Kd.R (Kd.int .i64) 3 wc w.heap.size (fun k_ => zo (.slice T2 J1.length U2) k_ ∧ zo (.slice i0 u.length b0) k_ ∧ zo (.slice l0 x.length c0) k_ ∧ zo (.slice m0 y.length d0) k_ ∧ zo (.slice J M1.length L) k_ ∧ zo (.slice M N1.length O) k_ ∧ zo (.slice A0 U.length t0) k_ ∧ zo (.slice B0 X.length x0) k_ ∧ zo (.slice C0 a0.length y0) k_) (.slice E L1.length I) L1) ∧ Aside0 (Kd.R (Kd.int .i64) 3 wc w.heap.size (fun k_ => zo (.slice T2 J1.length U2) k_ ∧ zo (.slice i0 u.length b0) k_ ∧ zo (.slice l0 x.length c0) k_ ∧ zo (.slice m0 y.length d0) k_ ∧ zo (.slice E L1.length I) k_ ∧ zo (.slice M N1.length O) k_ ∧ zo (.slice A0 U.length t0) k_ ∧ zo (.slice B0 X.length x0) k_ ∧ zo (.slice C0 a0.length y0) k_) (.slice J M1.length L) M1) ∧ Aside0 (Kd.R (Kd.int .i64) 3 wc w.heap.size (fun k_ => zo (.slice T2 J1.length U2) k_ ∧ zo (.slice i0 u.length b0) k_ ∧ zo (.slice l0 x.length c0) k_ ∧ zo (.slice m0 y.length d0) k_ ∧ zo (.slice E L1.length I) k_ ∧ zo (.slice J M1.length L) k_ ∧ zo (.slice A0 U.length t0) k_ ∧ zo (.slice B0 X.length x0) k_ ∧ zo (.slice C0 a0.length y0) k_) (.slice M N1.length O) N1) ∧ Aside0 (Kd.R (Kd.int .i64) 3 wc w.heap.size (fun k_ => zo (.slice T2 J1.length U2) k_ ∧ zo (.slice i0 u.length b0) k_ ∧ zo (.slice l0 x.length c0) k_ ∧ zo (.slice m0 y.length d0) k_ ∧ zo (.slice E L1.length I) k_ ∧ zo (.slice J M1.length L) k_ ∧ zo (.slice M N1.length O) k_ ∧ zo (.slice B0 X.length x0) k_ ∧ zo (.slice C0 a0.length y0) k_) (.slice A0 U.length t0) U) ∧ Aside0 (Kd.R (Kd.int .i64) 3 wc w.heap.size (fun k_ => zo (.slice T2 J1.length U2) k_ ∧ zo (.slice i0 u.length b0) k_ ∧ zo (.slice l0 x.length c0) k_ ∧ zo (.slice m0 y.length d0) k_ ∧ zo (.slice E L1.length I) k_ ∧ zo (.slice J M1.length L) k_ ∧ zo (.slice M N1.length O) k_ ∧ zo (.slice A0 U.length t0) k_ ∧ zo (.slice C0 a0.length y0) k_) (.slice B0 X.length x0) X) ∧ Aside0 (Kd.R (Kd.int .i64) 3 wc w.heap.size (fun k_ => zo (.slice T2 J1.length U2) k_ ∧ zo (.slice i0 u.length b0) k_ ∧ zo (.slice l0 x.length c0) k_ ∧ zo (.slice m0 y.length d0) k_ ∧ zo (.slice E L1.length I) k_ ∧ zo (.slice J M1.length L) k_ ∧ zo (.slice M N1.length O) k_ ∧ zo (.slice A0 U.length t0) k_ ∧ zo (.slice B0 X.length x0) k_) (.slice C0 a0.length y0) a0) ∧ Aside0 (wc.heap[l]? = some (.cells #[.int .i64 p1, .int .i64 q1, .int .i64 t1, .int .i64 x1, .int .i64 y1, .int .i64 A1, .int .i64 B1, .int .i64 C1, .int .i64 D1, .int .i64 E1, .int .i64 S0] 25 (0, 0))) ∧ Aside0 (wc.heap[z]? = some (.cells #[(.slice D2 g1.length E2), (.slice F2 i1.length G2), (.slice I2 l1.length J2), .int .i64 m1, .int .i64 n1, .int .i64 o1] 28 (0, 0))) ∧ Aside0 (wc.heap[I0]? = some (.cells #[(.slice i0 u.length b0), (.slice l0 x.length c0), (.slice m0 y.length d0), .int .i64 c3, .int .i64 d3, .int .i64 e3] 30 (0, 0))) ∧ Aside0 (wc.heap[C2]? = some (.cells #[(.slice E L1.length I), (.slice J M1.length L), (.slice M N1.length O), .int .i64 N3, .int .i64 O3, .int .i64 R3] 30 (0, 0))) ∧ Aside0 (wc.heap[M0]? = some (.cells #[(.slice A0 U.length t0), (.slice B0 X.length x0), (.slice C0 a0.length y0), .int .i64 o3, .int .i64 p3, .int .i64 q3] 30 (0, 0))) ∧ Aside0 (Below w.heap.size w wc))
   case first =>
    have H := a3s.out
    clear a3s
    replace H := z6 H
    obtain ⟨C7, b2p, H⟩ := H
    have A75 := zK b2p
    clear b2p
    by_cases X9 : C7 = true
    · as_aux_lemma =>
      subst X9
      rw [if_pos rfl] at H
      have H' := zK H
      clear H
      have c5a := e4.out
      have c5b := O0.out
      have c5c := g4.out
      have c5d := f4.out
      have c5e := V3.out
      have c5f := U3.out
      have c5g := X3.out
      have c5j := G1.out
      obtain ⟨a0a, a0b, a0c, a0d, a0e, a0f, a0g, a0j, a0l, a0m, a0n, a0o⟩ := zc6 G0
      have c5l := n3.out
      have c5m := L0.out
      have c5n := m3.out
      have c5o := a1.out
      have c5p := B6.out
      have c5q := C6.out
      obtain ⟨a0p, a0q, a0s, a0t, a0u, a0x, a0y, a0z, a1a, a1b, a1c, a1d⟩ := zc6 n0
      go_wp2_with (first | ((with_reducible refine gc 13 rfl ?_); refine zF 51 Try.func13 #[.agg #[.slice A0 U.length t0, .slice B0 X.length x0, .slice C0 a0.length y0, .int .i64 o3, .int .i64 p3, .int .i64 q3], .agg #[.slice i0 u.length b0, .slice l0 x.length c0, .slice m0 y.length d0, .int .i64 c3, .int .i64 d3, .int .i64 e3]] rfl zL ?_; (with_reducible refine (laws_eqOpt.calls k _ _ U _ _ X _ _ a0 o3 p3 q3 _ _ u _ _ x _ _ y c3 d3 e3 true _ ?side1 ?side2 ?side3 ?side4 ?side5 ?side6 ?side7 ?side8 ?side9 ?side10 ?side11 ?side12 A75.out).mono ?_); (case side1 => refine (Kd.R_reads' (e := 3) (base := w.heap.size) (ok := fun k_ => (zo v397 k_ ∧ (zo v400 k_ ∧ (zo v403 k_ ∧ (zo v409 k_ ∧ (zo (.slice i0 u.length b0) k_ ∧ (zo (.slice l0 x.length c0) k_ ∧ (zo (.slice m0 y.length d0) k_ ∧ (zo (.slice E L1.length I) k_ ∧ (zo (.slice J M1.length L) k_ ∧ (zo (.slice M N1.length O) k_ ∧ (zo (.slice T2 J1.length U2) k_ ∧ (zo (.slice B0 X.length x0) k_ ∧ zo (.slice C0 a0.length y0) k_))))))))))))) (n := U.length) (c := t0) ?_).2.2; exact (zlR y5.out)); (case side2 => exact (Kd.R_reads' y5.out).2.1); (case side3 => refine (Kd.R_reads' (e := 3) (base := w.heap.size) (ok := fun k_ => (zo v397 k_ ∧ (zo v400 k_ ∧ (zo v403 k_ ∧ (zo v409 k_ ∧ (zo (.slice i0 u.length b0) k_ ∧ (zo (.slice l0 x.length c0) k_ ∧ (zo (.slice m0 y.length d0) k_ ∧ (zo (.slice E L1.length I) k_ ∧ (zo (.slice J M1.length L) k_ ∧ (zo (.slice M N1.length O) k_ ∧ (zo (.slice T2 J1.length U2) k_ ∧ (zo (.slice A0 U.length t0) k_ ∧ zo (.slice C0 a0.length y0) k_))))))))))))) (n := X.length) (c := x0) ?_).2.2; exact (zlR A5.out)); (case side4 => exact (Kd.R_reads' A5.out).2.1); (case side5 => refine (Kd.R_reads' (e := 3) (base := w.heap.size) (ok := fun k_ => (zo v397 k_ ∧ (zo v400 k_ ∧ (zo v403 k_ ∧ (zo v409 k_ ∧ (zo (.slice i0 u.length b0) k_ ∧ (zo (.slice l0 x.length c0) k_ ∧ (zo (.slice m0 y.length d0) k_ ∧ (zo (.slice E L1.length I) k_ ∧ (zo (.slice J M1.length L) k_ ∧ (zo (.slice M N1.length O) k_ ∧ (zo (.slice T2 J1.length U2) k_ ∧ (zo (.slice A0 U.length t0) k_ ∧ zo (.slice B0 X.length x0) k_))))))))))))) (n := a0.length) (c := y0) ?_).2.2; exact (zlR B5.out)); (case side6 => exact (Kd.R_reads' B5.out).2.1); (case side7 => refine (Kd.R_reads' (e := 3) (base := w.heap.size) (ok := fun k_ => (zo v397 k_ ∧ (zo v400 k_ ∧ (zo v403 k_ ∧ (zo v409 k_ ∧ (zo (.slice l0 x.length c0) k_ ∧ (zo (.slice m0 y.length d0) k_ ∧ (zo (.slice E L1.length I) k_ ∧ (zo (.slice J M1.length L) k_ ∧ (zo (.slice M N1.length O) k_ ∧ (zo (.slice T2 J1.length U2) k_ ∧ (zo (.slice A0 U.length t0) k_ ∧ (zo (.slice B0 X.length x0) k_ ∧ zo (.slice C0 a0.length y0) k_))))))))))))) (n := u.length) (c := b0) ?_).2.2; exact (zlR n2.out)); (case side8 => exact (Kd.R_reads' n2.out).2.1); (case side9 => refine (Kd.R_reads' (e := 3) (base := w.heap.size) (ok := fun k_ => (zo v397 k_ ∧ (zo v400 k_ ∧ (zo v403 k_ ∧ (zo v409 k_ ∧ (zo (.slice i0 u.length b0) k_ ∧ (zo (.slice m0 y.length d0) k_ ∧ (zo (.slice E L1.length I) k_ ∧ (zo (.slice J M1.length L) k_ ∧ (zo (.slice M N1.length O) k_ ∧ (zo (.slice T2 J1.length U2) k_ ∧ (zo (.slice A0 U.length t0) k_ ∧ (zo (.slice B0 X.length x0) k_ ∧ zo (.slice C0 a0.length y0) k_))))))))))))) (n := x.length) (c := c0) ?_).2.2; exact (zlR o2.out)); (case side10 => exact (Kd.R_reads' o2.out).2.1); (case side11 => refine (Kd.R_reads' (e := 3) (base := w.heap.size) (ok := fun k_ => (zo v397 k_ ∧ (zo v400 k_ ∧ (zo v403 k_ ∧ (zo v409 k_ ∧ (zo (.slice i0 u.length b0) k_ ∧ (zo (.slice l0 x.length c0) k_ ∧ (zo (.slice E L1.length I) k_ ∧ (zo (.slice J M1.length L) k_ ∧ (zo (.slice M N1.length O) k_ ∧ (zo (.slice T2 J1.length U2) k_ ∧ (zo (.slice A0 U.length t0) k_ ∧ (zo (.slice B0 X.length x0) k_ ∧ zo (.slice C0 a0.length y0) k_))))))))))))) (n := y.length) (c := d0) ?_).2.2; exact (zlR q2.out)); (case side12 => exact (Kd.R_reads' q2.out).2.1); rintro e w86 ⟨rfl, hb⟩; refine ⟨_, rfl, ?_⟩; have R1 := zK (Kd.R_below (zlR d1.out) hb); have S1 := zK (Kd.R_below (zlR e1.out) hb); have T1 := zK (Kd.R_below (zlR f1.out) hb); have a2 := zK (Kd.R_below (zlR I1.out) hb); have b2 := zK (Kd.R_below (zlR n2.out) hb); have d2 := zK (Kd.R_below (zlR o2.out) hb); have i2 := zK (Kd.R_below (zlR q2.out) hb); have m2 := zK (Kd.R_below (zlR N2.out) hb); have t2 := zK (Kd.R_below (zlR O2.out) hb); have x2 := zK (Kd.R_below (zlR R2.out) hb); have O1 := zK (Kd.R_below (zlR g3.out) hb); have U1 := zK (Kd.R_below (zlR y5.out) hb); have V1 := zK (Kd.R_below (zlR A5.out) hb); have X1 := zK (Kd.R_below (zlR B5.out) hb); have g2 := zK (zg (zV a) hb); have B2 := zK (zg (zV q) hb); have L2 := zK (zg (zV n0) hb); have V2 := zK (zg (zV T) hb); have b3 := zK (zg (g := M0) (o := .cells #[.slice A0 U.length t0, .slice B0 X.length x0, .slice C0 a0.length y0, .int .i64 o3, .int .i64 p3, .int .i64 q3] 30 (0, 0)) (zM G0) hb); have G3 := z8 hb; revert R1 S1 T1 a2 b2 d2 i2 m2 t2 x2 O1 U1 V1 X1 g2 B2 L2 V2 b3 G3; clear d1 e1 f1 I1 n2 o2 q2 N2 O2 R2 g3 y5 A5 B5 a q n0 T G0 HB; intro d1 e1 f1 I1 n2 o2 q2 N2 O2 R2 g3 y5 A5 B5 a q n0 T G0 HB))
      go_meet
      case rel => exact ⟨_, ((D7 != i4)), zR, H', ⟨by first | omega | exact Nat.le_refl _⟩, ⟨Kd.R_mono (zlR g3.out) (fun _ hk => ⟨hk.2.2.2.2.1, ⟨hk.2.2.2.2.2.1, ⟨hk.2.2.2.2.2.2.1, ⟨hk.2.2.2.2.2.2.2.1, ⟨hk.2.2.2.2.2.2.2.2.1, ⟨hk.2.2.2.2.2.2.2.2.2.1, ⟨hk.2.2.2.2.2.2.2.2.2.2.1, ⟨hk.2.2.2.2.2.2.2.2.2.2.2.1, hk.2.2.2.2.2.2.2.2.2.2.2.2⟩⟩⟩⟩⟩⟩⟩⟩)⟩, ⟨Kd.R_mono (zlR n2.out) (fun _ hk => ⟨hk.2.2.2.2.2.2.2.2.2.1, ⟨hk.2.2.2.2.1, ⟨hk.2.2.2.2.2.1, ⟨hk.2.2.2.2.2.2.1, ⟨hk.2.2.2.2.2.2.2.1, ⟨hk.2.2.2.2.2.2.2.2.1, ⟨hk.2.2.2.2.2.2.2.2.2.2.1, ⟨hk.2.2.2.2.2.2.2.2.2.2.2.1, hk.2.2.2.2.2.2.2.2.2.2.2.2⟩⟩⟩⟩⟩⟩⟩⟩)⟩, ⟨Kd.R_mono (zlR o2.out) (fun _ hk => ⟨hk.2.2.2.2.2.2.2.2.2.1, ⟨hk.2.2.2.2.1, ⟨hk.2.2.2.2.2.1, ⟨hk.2.2.2.2.2.2.1, ⟨hk.2.2.2.2.2.2.2.1, ⟨hk.2.2.2.2.2.2.2.2.1, ⟨hk.2.2.2.2.2.2.2.2.2.2.1, ⟨hk.2.2.2.2.2.2.2.2.2.2.2.1, hk.2.2.2.2.2.2.2.2.2.2.2.2⟩⟩⟩⟩⟩⟩⟩⟩)⟩, ⟨Kd.R_mono (zlR q2.out) (fun _ hk => ⟨hk.2.2.2.2.2.2.2.2.2.1, ⟨hk.2.2.2.2.1, ⟨hk.2.2.2.2.2.1, ⟨hk.2.2.2.2.2.2.1, ⟨hk.2.2.2.2.2.2.2.1, ⟨hk.2.2.2.2.2.2.2.2.1, ⟨hk.2.2.2.2.2.2.2.2.2.2.1, ⟨hk.2.2.2.2.2.2.2.2.2.2.2.1, hk.2.2.2.2.2.2.2.2.2.2.2.2⟩⟩⟩⟩⟩⟩⟩⟩)⟩, ⟨Kd.R_mono (zlR N2.out) (fun _ hk => ⟨hk.2.2.2.2.2.2.2.2.2.1, ⟨hk.2.2.2.2.1, ⟨hk.2.2.2.2.2.1, ⟨hk.2.2.2.2.2.2.1, ⟨hk.2.2.2.2.2.2.2.1, ⟨hk.2.2.2.2.2.2.2.2.1, ⟨hk.2.2.2.2.2.2.2.2.2.2.1, ⟨hk.2.2.2.2.2.2.2.2.2.2.2.1, hk.2.2.2.2.2.2.2.2.2.2.2.2⟩⟩⟩⟩⟩⟩⟩⟩)⟩, ⟨Kd.R_mono (zlR O2.out) (fun _ hk => ⟨hk.2.2.2.2.2.2.2.2.2.1, ⟨hk.2.2.2.2.1, ⟨hk.2.2.2.2.2.1, ⟨hk.2.2.2.2.2.2.1, ⟨hk.2.2.2.2.2.2.2.1, ⟨hk.2.2.2.2.2.2.2.2.1, ⟨hk.2.2.2.2.2.2.2.2.2.2.1, ⟨hk.2.2.2.2.2.2.2.2.2.2.2.1, hk.2.2.2.2.2.2.2.2.2.2.2.2⟩⟩⟩⟩⟩⟩⟩⟩)⟩, ⟨Kd.R_mono (zlR R2.out) (fun _ hk => ⟨hk.2.2.2.2.2.2.2.2.2.1, ⟨hk.2.2.2.2.1, ⟨hk.2.2.2.2.2.1, ⟨hk.2.2.2.2.2.2.1, ⟨hk.2.2.2.2.2.2.2.1, ⟨hk.2.2.2.2.2.2.2.2.1, ⟨hk.2.2.2.2.2.2.2.2.2.2.1, ⟨hk.2.2.2.2.2.2.2.2.2.2.2.1, hk.2.2.2.2.2.2.2.2.2.2.2.2⟩⟩⟩⟩⟩⟩⟩⟩)⟩, ⟨Kd.R_mono (zlR y5.out) (fun _ hk => ⟨hk.2.2.2.2.2.2.2.2.2.2.1, ⟨hk.2.2.2.2.1, ⟨hk.2.2.2.2.2.1, ⟨hk.2.2.2.2.2.2.1, ⟨hk.2.2.2.2.2.2.2.1, ⟨hk.2.2.2.2.2.2.2.2.1, ⟨hk.2.2.2.2.2.2.2.2.2.1, ⟨hk.2.2.2.2.2.2.2.2.2.2.2.1, hk.2.2.2.2.2.2.2.2.2.2.2.2⟩⟩⟩⟩⟩⟩⟩⟩)⟩, ⟨Kd.R_mono (zlR A5.out) (fun _ hk => ⟨hk.2.2.2.2.2.2.2.2.2.2.1, ⟨hk.2.2.2.2.1, ⟨hk.2.2.2.2.2.1, ⟨hk.2.2.2.2.2.2.1, ⟨hk.2.2.2.2.2.2.2.1, ⟨hk.2.2.2.2.2.2.2.2.1, ⟨hk.2.2.2.2.2.2.2.2.2.1, ⟨hk.2.2.2.2.2.2.2.2.2.2.2.1, hk.2.2.2.2.2.2.2.2.2.2.2.2⟩⟩⟩⟩⟩⟩⟩⟩)⟩, ⟨Kd.R_mono (zlR B5.out) (fun _ hk => ⟨hk.2.2.2.2.2.2.2.2.2.2.1, ⟨hk.2.2.2.2.1, ⟨hk.2.2.2.2.2.1, ⟨hk.2.2.2.2.2.2.1, ⟨hk.2.2.2.2.2.2.2.1, ⟨hk.2.2.2.2.2.2.2.2.1, ⟨hk.2.2.2.2.2.2.2.2.2.1, ⟨hk.2.2.2.2.2.2.2.2.2.2.2.1, hk.2.2.2.2.2.2.2.2.2.2.2.2⟩⟩⟩⟩⟩⟩⟩⟩)⟩, ⟨zM a⟩, ⟨zM q⟩, ⟨zM n0⟩, ⟨zM T⟩, ⟨zM G0⟩, ⟨zB⟩⟩
    replace X9 := Bool.eq_false_iff.mpr X9
    subst X9
    rw [if_neg (show ¬ (false = true) by decide)] at H
    have H' := zK H
    clear H
    have c5s := e4.out
    have c5t := O0.out
    have c5u := g4.out
    have c5x := f4.out
    have c5y := V3.out
    have c5z := U3.out
    have c6a := X3.out
    have c6b := G1.out
    obtain ⟨a1e, a1f, a1g, a1j, a1l, a1m, a1n, a1o, a1p, a1q, a1s, a1t⟩ := zc6 G0
    have c6c := n3.out
    have c6d := L0.out
    have c6e := m3.out
    have c6f := a1.out
    have c6g := B6.out
    have c6j := C6.out
    obtain ⟨a1u, a1x, a1y, a1z, a2a, a2b, a2c, a2d, a2e, a2f, a2g, a2j⟩ := zc6 n0
    go_wp2_with (first | ((with_reducible refine gc 13 rfl ?_); refine zF 51 Try.func13 #[.agg #[.slice A0 U.length t0, .slice B0 X.length x0, .slice C0 a0.length y0, .int .i64 o3, .int .i64 p3, .int .i64 q3], .agg #[.slice i0 u.length b0, .slice l0 x.length c0, .slice m0 y.length d0, .int .i64 c3, .int .i64 d3, .int .i64 e3]] rfl zL ?_; (with_reducible refine (laws_eqOpt.calls k _ _ U _ _ X _ _ a0 o3 p3 q3 _ _ u _ _ x _ _ y c3 d3 e3 false _ ?side1 ?side2 ?side3 ?side4 ?side5 ?side6 ?side7 ?side8 ?side9 ?side10 ?side11 ?side12 A75.out).mono ?_); (case side1 => refine (Kd.R_reads' (e := 3) (base := w.heap.size) (ok := fun k_ => (zo v397 k_ ∧ (zo v400 k_ ∧ (zo v403 k_ ∧ (zo v409 k_ ∧ (zo (.slice i0 u.length b0) k_ ∧ (zo (.slice l0 x.length c0) k_ ∧ (zo (.slice m0 y.length d0) k_ ∧ (zo (.slice E L1.length I) k_ ∧ (zo (.slice J M1.length L) k_ ∧ (zo (.slice M N1.length O) k_ ∧ (zo (.slice T2 J1.length U2) k_ ∧ (zo (.slice B0 X.length x0) k_ ∧ zo (.slice C0 a0.length y0) k_))))))))))))) (n := U.length) (c := t0) ?_).2.2; exact (zlR y5.out)); (case side2 => exact (Kd.R_reads' y5.out).2.1); (case side3 => refine (Kd.R_reads' (e := 3) (base := w.heap.size) (ok := fun k_ => (zo v397 k_ ∧ (zo v400 k_ ∧ (zo v403 k_ ∧ (zo v409 k_ ∧ (zo (.slice i0 u.length b0) k_ ∧ (zo (.slice l0 x.length c0) k_ ∧ (zo (.slice m0 y.length d0) k_ ∧ (zo (.slice E L1.length I) k_ ∧ (zo (.slice J M1.length L) k_ ∧ (zo (.slice M N1.length O) k_ ∧ (zo (.slice T2 J1.length U2) k_ ∧ (zo (.slice A0 U.length t0) k_ ∧ zo (.slice C0 a0.length y0) k_))))))))))))) (n := X.length) (c := x0) ?_).2.2; exact (zlR A5.out)); (case side4 => exact (Kd.R_reads' A5.out).2.1); (case side5 => refine (Kd.R_reads' (e := 3) (base := w.heap.size) (ok := fun k_ => (zo v397 k_ ∧ (zo v400 k_ ∧ (zo v403 k_ ∧ (zo v409 k_ ∧ (zo (.slice i0 u.length b0) k_ ∧ (zo (.slice l0 x.length c0) k_ ∧ (zo (.slice m0 y.length d0) k_ ∧ (zo (.slice E L1.length I) k_ ∧ (zo (.slice J M1.length L) k_ ∧ (zo (.slice M N1.length O) k_ ∧ (zo (.slice T2 J1.length U2) k_ ∧ (zo (.slice A0 U.length t0) k_ ∧ zo (.slice B0 X.length x0) k_))))))))))))) (n := a0.length) (c := y0) ?_).2.2; exact (zlR B5.out)); (case side6 => exact (Kd.R_reads' B5.out).2.1); (case side7 => refine (Kd.R_reads' (e := 3) (base := w.heap.size) (ok := fun k_ => (zo v397 k_ ∧ (zo v400 k_ ∧ (zo v403 k_ ∧ (zo v409 k_ ∧ (zo (.slice l0 x.length c0) k_ ∧ (zo (.slice m0 y.length d0) k_ ∧ (zo (.slice E L1.length I) k_ ∧ (zo (.slice J M1.length L) k_ ∧ (zo (.slice M N1.length O) k_ ∧ (zo (.slice T2 J1.length U2) k_ ∧ (zo (.slice A0 U.length t0) k_ ∧ (zo (.slice B0 X.length x0) k_ ∧ zo (.slice C0 a0.length y0) k_))))))))))))) (n := u.length) (c := b0) ?_).2.2; exact (zlR n2.out)); (case side8 => exact (Kd.R_reads' n2.out).2.1); (case side9 => refine (Kd.R_reads' (e := 3) (base := w.heap.size) (ok := fun k_ => (zo v397 k_ ∧ (zo v400 k_ ∧ (zo v403 k_ ∧ (zo v409 k_ ∧ (zo (.slice i0 u.length b0) k_ ∧ (zo (.slice m0 y.length d0) k_ ∧ (zo (.slice E L1.length I) k_ ∧ (zo (.slice J M1.length L) k_ ∧ (zo (.slice M N1.length O) k_ ∧ (zo (.slice T2 J1.length U2) k_ ∧ (zo (.slice A0 U.length t0) k_ ∧ (zo (.slice B0 X.length x0) k_ ∧ zo (.slice C0 a0.length y0) k_))))))))))))) (n := x.length) (c := c0) ?_).2.2; exact (zlR o2.out)); (case side10 => exact (Kd.R_reads' o2.out).2.1); (case side11 => refine (Kd.R_reads' (e := 3) (base := w.heap.size) (ok := fun k_ => (zo v397 k_ ∧ (zo v400 k_ ∧ (zo v403 k_ ∧ (zo v409 k_ ∧ (zo (.slice i0 u.length b0) k_ ∧ (zo (.slice l0 x.length c0) k_ ∧ (zo (.slice E L1.length I) k_ ∧ (zo (.slice J M1.length L) k_ ∧ (zo (.slice M N1.length O) k_ ∧ (zo (.slice T2 J1.length U2) k_ ∧ (zo (.slice A0 U.length t0) k_ ∧ (zo (.slice B0 X.length x0) k_ ∧ zo (.slice C0 a0.length y0) k_))))))))))))) (n := y.length) (c := d0) ?_).2.2; exact (zlR q2.out)); (case side12 => exact (Kd.R_reads' q2.out).2.1); rintro e w96 ⟨rfl, hb⟩; refine ⟨_, rfl, ?_⟩; have R1 := zK (Kd.R_below (zlR d1.out) hb); have S1 := zK (Kd.R_below (zlR e1.out) hb); have T1 := zK (Kd.R_below (zlR f1.out) hb); have a2 := zK (Kd.R_below (zlR I1.out) hb); have b2 := zK (Kd.R_below (zlR n2.out) hb); have d2 := zK (Kd.R_below (zlR o2.out) hb); have i2 := zK (Kd.R_below (zlR q2.out) hb); have m2 := zK (Kd.R_below (zlR N2.out) hb); have t2 := zK (Kd.R_below (zlR O2.out) hb); have x2 := zK (Kd.R_below (zlR R2.out) hb); have O1 := zK (Kd.R_below (zlR g3.out) hb); have U1 := zK (Kd.R_below (zlR y5.out) hb); have V1 := zK (Kd.R_below (zlR A5.out) hb); have X1 := zK (Kd.R_below (zlR B5.out) hb); have g2 := zK (zg (zV a) hb); have B2 := zK (zg (zV q) hb); have L2 := zK (zg (zV n0) hb); have V2 := zK (zg (zV T) hb); have b3 := zK (zg (g := M0) (o := .cells #[.slice A0 U.length t0, .slice B0 X.length x0, .slice C0 a0.length y0, .int .i64 o3, .int .i64 p3, .int .i64 q3] 30 (0, 0)) (zM G0) hb); have G3 := z8 hb; revert R1 S1 T1 a2 b2 d2 i2 m2 t2 x2 O1 U1 V1 X1 g2 B2 L2 V2 b3 G3; clear d1 e1 f1 I1 n2 o2 q2 N2 O2 R2 g3 y5 A5 B5 a q n0 T G0 HB; intro d1 e1 f1 I1 n2 o2 q2 N2 O2 R2 g3 y5 A5 B5 a q n0 T G0 HB))
    go_meet
    case rel => exact ⟨_, (true), zR, H', ⟨by first | omega | exact Nat.le_refl _⟩, ⟨Kd.R_mono (zlR g3.out) (fun _ hk => ⟨hk.2.2.2.2.1, ⟨hk.2.2.2.2.2.1, ⟨hk.2.2.2.2.2.2.1, ⟨hk.2.2.2.2.2.2.2.1, ⟨hk.2.2.2.2.2.2.2.2.1, ⟨hk.2.2.2.2.2.2.2.2.2.1, ⟨hk.2.2.2.2.2.2.2.2.2.2.1, ⟨hk.2.2.2.2.2.2.2.2.2.2.2.1, hk.2.2.2.2.2.2.2.2.2.2.2.2⟩⟩⟩⟩⟩⟩⟩⟩)⟩, ⟨Kd.R_mono (zlR n2.out) (fun _ hk => ⟨hk.2.2.2.2.2.2.2.2.2.1, ⟨hk.2.2.2.2.1, ⟨hk.2.2.2.2.2.1, ⟨hk.2.2.2.2.2.2.1, ⟨hk.2.2.2.2.2.2.2.1, ⟨hk.2.2.2.2.2.2.2.2.1, ⟨hk.2.2.2.2.2.2.2.2.2.2.1, ⟨hk.2.2.2.2.2.2.2.2.2.2.2.1, hk.2.2.2.2.2.2.2.2.2.2.2.2⟩⟩⟩⟩⟩⟩⟩⟩)⟩, ⟨Kd.R_mono (zlR o2.out) (fun _ hk => ⟨hk.2.2.2.2.2.2.2.2.2.1, ⟨hk.2.2.2.2.1, ⟨hk.2.2.2.2.2.1, ⟨hk.2.2.2.2.2.2.1, ⟨hk.2.2.2.2.2.2.2.1, ⟨hk.2.2.2.2.2.2.2.2.1, ⟨hk.2.2.2.2.2.2.2.2.2.2.1, ⟨hk.2.2.2.2.2.2.2.2.2.2.2.1, hk.2.2.2.2.2.2.2.2.2.2.2.2⟩⟩⟩⟩⟩⟩⟩⟩)⟩, ⟨Kd.R_mono (zlR q2.out) (fun _ hk => ⟨hk.2.2.2.2.2.2.2.2.2.1, ⟨hk.2.2.2.2.1, ⟨hk.2.2.2.2.2.1, ⟨hk.2.2.2.2.2.2.1, ⟨hk.2.2.2.2.2.2.2.1, ⟨hk.2.2.2.2.2.2.2.2.1, ⟨hk.2.2.2.2.2.2.2.2.2.2.1, ⟨hk.2.2.2.2.2.2.2.2.2.2.2.1, hk.2.2.2.2.2.2.2.2.2.2.2.2⟩⟩⟩⟩⟩⟩⟩⟩)⟩, ⟨Kd.R_mono (zlR N2.out) (fun _ hk => ⟨hk.2.2.2.2.2.2.2.2.2.1, ⟨hk.2.2.2.2.1, ⟨hk.2.2.2.2.2.1, ⟨hk.2.2.2.2.2.2.1, ⟨hk.2.2.2.2.2.2.2.1, ⟨hk.2.2.2.2.2.2.2.2.1, ⟨hk.2.2.2.2.2.2.2.2.2.2.1, ⟨hk.2.2.2.2.2.2.2.2.2.2.2.1, hk.2.2.2.2.2.2.2.2.2.2.2.2⟩⟩⟩⟩⟩⟩⟩⟩)⟩, ⟨Kd.R_mono (zlR O2.out) (fun _ hk => ⟨hk.2.2.2.2.2.2.2.2.2.1, ⟨hk.2.2.2.2.1, ⟨hk.2.2.2.2.2.1, ⟨hk.2.2.2.2.2.2.1, ⟨hk.2.2.2.2.2.2.2.1, ⟨hk.2.2.2.2.2.2.2.2.1, ⟨hk.2.2.2.2.2.2.2.2.2.2.1, ⟨hk.2.2.2.2.2.2.2.2.2.2.2.1, hk.2.2.2.2.2.2.2.2.2.2.2.2⟩⟩⟩⟩⟩⟩⟩⟩)⟩, ⟨Kd.R_mono (zlR R2.out) (fun _ hk => ⟨hk.2.2.2.2.2.2.2.2.2.1, ⟨hk.2.2.2.2.1, ⟨hk.2.2.2.2.2.1, ⟨hk.2.2.2.2.2.2.1, ⟨hk.2.2.2.2.2.2.2.1, ⟨hk.2.2.2.2.2.2.2.2.1, ⟨hk.2.2.2.2.2.2.2.2.2.2.1, ⟨hk.2.2.2.2.2.2.2.2.2.2.2.1, hk.2.2.2.2.2.2.2.2.2.2.2.2⟩⟩⟩⟩⟩⟩⟩⟩)⟩, ⟨Kd.R_mono (zlR y5.out) (fun _ hk => ⟨hk.2.2.2.2.2.2.2.2.2.2.1, ⟨hk.2.2.2.2.1, ⟨hk.2.2.2.2.2.1, ⟨hk.2.2.2.2.2.2.1, ⟨hk.2.2.2.2.2.2.2.1, ⟨hk.2.2.2.2.2.2.2.2.1, ⟨hk.2.2.2.2.2.2.2.2.2.1, ⟨hk.2.2.2.2.2.2.2.2.2.2.2.1, hk.2.2.2.2.2.2.2.2.2.2.2.2⟩⟩⟩⟩⟩⟩⟩⟩)⟩, ⟨Kd.R_mono (zlR A5.out) (fun _ hk => ⟨hk.2.2.2.2.2.2.2.2.2.2.1, ⟨hk.2.2.2.2.1, ⟨hk.2.2.2.2.2.1, ⟨hk.2.2.2.2.2.2.1, ⟨hk.2.2.2.2.2.2.2.1, ⟨hk.2.2.2.2.2.2.2.2.1, ⟨hk.2.2.2.2.2.2.2.2.2.1, ⟨hk.2.2.2.2.2.2.2.2.2.2.2.1, hk.2.2.2.2.2.2.2.2.2.2.2.2⟩⟩⟩⟩⟩⟩⟩⟩)⟩, ⟨Kd.R_mono (zlR B5.out) (fun _ hk => ⟨hk.2.2.2.2.2.2.2.2.2.2.1, ⟨hk.2.2.2.2.1, ⟨hk.2.2.2.2.2.1, ⟨hk.2.2.2.2.2.2.1, ⟨hk.2.2.2.2.2.2.2.1, ⟨hk.2.2.2.2.2.2.2.2.1, ⟨hk.2.2.2.2.2.2.2.2.2.1, ⟨hk.2.2.2.2.2.2.2.2.2.2.2.1, hk.2.2.2.2.2.2.2.2.2.2.2.2⟩⟩⟩⟩⟩⟩⟩⟩)⟩, ⟨zM a⟩, ⟨zM q⟩, ⟨zM n0⟩, ⟨zM T⟩, ⟨zM G0⟩, ⟨zB⟩⟩
   case rest =>
    clear a3s
    try clear c1
    try clear p2
    try clear c7
    try clear c8
    try clear c9
    try clear c12
    try clear c13
    try clear X9
    try clear c77
    try clear c78
    try clear c79
    try clear c80
    try clear c82
    try clear c83
    try clear c84
    try clear c87
    try clear c88
    try clear c89
    try clear c90
    try clear c92
    try clear c93
    try clear c94
    try clear a0a a0b a0c a0d a0e a0f a0g a0j a0l a0m a0n a0o
    try clear a0p a0q a0s a0t a0u a0x a0y a0z a1a a1b a1c a1d
    try clear a1e a1f a1g a1j a1l a1m a1n a1o a1p a1q a1s a1t
    try clear a1u a1x a1y a1z a2a a2b a2c a2d a2e a2f a2g a2j
    obtain ⟨kq, T8, rfl, HA, L9, T3, o0, p0, q0, e0, f0, g0, A, B, D, a, q, n0, T, G0, HB⟩ := hcut
    cases kq with
    | zero => exact absurd HA.out (by simp [laws_FnExactStepOpt.j0])
    | succ O5 =>
     have H := HA.out
     clear HA
     simp only [laws_FnExactStepOpt.j0] at H
     by_cases c97 : T8 = true
     · subst c97
       rw [if_pos rfl] at H
       exact absurd H (by simp)
     replace c97 := Bool.eq_false_iff.mpr c97
     subst c97
     rw [if_neg (show ¬ (false = true) by decide)] at H
     replace H := z6 H
     obtain ⟨⟨V5, X5, a6, a2q, a2s, a2t⟩, b2q, H⟩ := H
     replace H : ((laws_eqOpt.f O5 L1 M1 N1 N3 O3 R3 V5 X5 a6 a2q a2s a2t).bind fun a4f => (if a4f = true then ((laws_toIntS.f O5 l2).bind fun R5 => ((laws_eqIntS.f O5 J1 R5).bind fun a4g => (if a4g = true then ((laws_markOpt.f O5 L1 M1 N1 N3 O3 R3 1).bind fun b3m => ((laws_markIntS.f O5 J1 b3m.1).bind fun a2u => (if a2u.1 < 0 then (laws_FnExactStepOpt.j1 O5 l2 i4 true p1 q1 t1 x1 y1 A1 B1 C1 D1 E1 S0 g1 i1 l1 m1 n1 o1 u x y c3 d3 e3 U X a0 o3 p3 q3) else ((laws_eqOpt.f O5 U X a0 o3 p3 q3 u x y c3 d3 e3).bind fun M8 => (if M8 = true then (laws_FnExactStepOpt.j1 O5 l2 i4 (D7 != i4) p1 q1 t1 x1 y1 A1 B1 C1 D1 E1 S0 g1 i1 l1 m1 n1 o1 u x y c3 d3 e3 U X a0 o3 p3 q3) else (laws_FnExactStepOpt.j1 O5 l2 i4 true p1 q1 t1 x1 y1 A1 B1 C1 D1 E1 S0 g1 i1 l1 m1 n1 o1 u x y c3 d3 e3 U X a0 o3 p3 q3)))))) else (some false)))) else (some false))) = some true := H
     have A98 := zK b2q
     clear b2q
     replace H := z6 H
     obtain ⟨a4f, b2s, H⟩ := H
     have A99 := zK b2s
     clear b2s
     by_cases M9 : a4f = true
     rotate_left
     · replace M9 := Bool.eq_false_iff.mpr M9
       subst M9
       rw [if_neg (show ¬ (false = true) by decide)] at H
       exact absurd H (by simp)
     subst M9
     rw [if_pos rfl] at H
     replace H := z6 H
     obtain ⟨R5, b0g, H⟩ := H
     have b4q := zK b0g
     clear b0g
     replace H := z6 H
     obtain ⟨a4g, b0j, H⟩ := H
     have b4s := zK b0j
     clear b0j
     by_cases N9 : a4g = true
     rotate_left
     · replace N9 := Bool.eq_false_iff.mpr N9
       subst N9
       rw [if_neg (show ¬ (false = true) by decide)] at H
       exact absurd H (by simp)
     subst N9
     rw [if_pos rfl] at H
     replace H := z6 H
     obtain ⟨⟨a2x, D0, E0, F0⟩, b0l, H⟩ := H
     replace H : ((laws_markIntS.f O5 J1 a2x).bind fun a2u => (if a2u.1 < 0 then (laws_FnExactStepOpt.j1 O5 l2 i4 true p1 q1 t1 x1 y1 A1 B1 C1 D1 E1 S0 g1 i1 l1 m1 n1 o1 u x y c3 d3 e3 U X a0 o3 p3 q3) else ((laws_eqOpt.f O5 U X a0 o3 p3 q3 u x y c3 d3 e3).bind fun M8 => (if M8 = true then (laws_FnExactStepOpt.j1 O5 l2 i4 (D7 != i4) p1 q1 t1 x1 y1 A1 B1 C1 D1 E1 S0 g1 i1 l1 m1 n1 o1 u x y c3 d3 e3 U X a0 o3 p3 q3) else (laws_FnExactStepOpt.j1 O5 l2 i4 true p1 q1 t1 x1 y1 A1 B1 C1 D1 E1 S0 g1 i1 l1 m1 n1 o1 u x y c3 d3 e3 U X a0 o3 p3 q3))))) = some true := H
     have b4t := zK b0l
     clear b0l
     replace H := z6 H
     obtain ⟨⟨a4j, b4u⟩, b0m, H⟩ := H
     replace H : (if a4j < 0 then (laws_FnExactStepOpt.j1 O5 l2 i4 true p1 q1 t1 x1 y1 A1 B1 C1 D1 E1 S0 g1 i1 l1 m1 n1 o1 u x y c3 d3 e3 U X a0 o3 p3 q3) else ((laws_eqOpt.f O5 U X a0 o3 p3 q3 u x y c3 d3 e3).bind fun M8 => (if M8 = true then (laws_FnExactStepOpt.j1 O5 l2 i4 (D7 != i4) p1 q1 t1 x1 y1 A1 B1 C1 D1 E1 S0 g1 i1 l1 m1 n1 o1 u x y c3 d3 e3 U X a0 o3 p3 q3) else (laws_FnExactStepOpt.j1 O5 l2 i4 true p1 q1 t1 x1 y1 A1 B1 C1 D1 E1 S0 g1 i1 l1 m1 n1 o1 u x y c3 d3 e3 U X a0 o3 p3 q3)))) = some true := H
     have b4x := zK b0m
     clear b0m
     have a2y := zK H
     clear H
     try go_wp2
     have R1 := zK (Kd.R_drew T3.out)
     have S1 := zK (Kd.R_drew o0.out)
     have T1 := zK (Kd.R_drew p0.out)
     have a2 := zK (Kd.R_drew q0.out)
     have b2 := zK (Kd.R_drew e0.out)
     have d2 := zK (Kd.R_drew f0.out)
     have i2 := zK (Kd.R_drew g0.out)
     have m2 := zK (Kd.R_drew A.out)
     have t2 := zK (Kd.R_drew B.out)
     have x2 := zK (Kd.R_drew D.out)
     have O1 := zK (zd a.out)
     have U1 := zK (zd q.out)
     have V1 := zK (zd n0.out)
     have X1 := zK (zd T.out)
     have g2 := zK (zd G0.out)
     have B2 := zK (ze HB.out)
     revert R1 S1 T1 a2 b2 d2 i2 m2 t2 x2 O1 U1 V1 X1 g2 B2
     clear T3 o0 p0 q0 e0 f0 g0 A B D a q n0 T G0 HB
     intro T3 o0 p0 q0 e0 f0 g0 A B D a q n0 T G0 HB
     refine start_ (n := 5) (S := fun w' => w'.cell? ⟨C2, 0, none⟩ = some (.slice E L1.length I) ∧ w'.cell? ⟨C2, 1, none⟩ = some (.slice J M1.length L) ∧ w'.cell? ⟨C2, 2, none⟩ = some (.slice M N1.length O) ∧ w'.cell? ⟨C2, 3, none⟩ = some (.int .i64 N3) ∧ w'.cell? ⟨C2, 4, none⟩ = some (.int .i64 O3) ∧ w'.cell? ⟨C2, 5, none⟩ = some (.int .i64 R3) ∧ w'.cell? ⟨z, 0, none⟩ = some (.slice D2 g1.length E2) ∧ w'.cell? ⟨z, 1, none⟩ = some (.slice F2 i1.length G2) ∧ w'.cell? ⟨z, 2, none⟩ = some (.slice I2 l1.length J2) ∧ w'.cell? ⟨z, 3, none⟩ = some (.int .i64 m1) ∧ w'.cell? ⟨z, 4, none⟩ = some (.int .i64 n1) ∧ w'.cell? ⟨z, 5, none⟩ = some (.int .i64 o1)) (ds := []) (bl 5 0) (by kernel_rfl) rfl (by kernel_rfl) ⟨zy T 0, zy T 1, zy T 2, zy T 3, zy T 4, zy T 5, zy q 0, zy q 1, zy q 2, zy q 3, zy q 4, zy q 5⟩ (fun hHeld => ?_)
     generalize wc.drew = c7q at T3 o0 p0 q0 e0 f0 g0 A B D a q n0 T G0 HB hHeld ⊢
     refine take_ (i := 0) (N := some 58) (v := ?_) (a' := ?_) (bl 5 1) rfl rfl (by kernel_rfl) (fun _ _ _ h => h) (Or.inl ⟨by rfl, ?_⟩) hHeld ?_ ?_
     rotate_left
     · rintro w' ⟨s0, s1, s2, s3, s4, s5, s6, s7, s8, s9, x9, y9⟩
       go_simp
       with_reducible rfl
     rotate_left
     · simp only [Act.put, zq1, zq2, zq3, i64_w, i32_w]
       rfl
     refine take_ (i := 1) (N := some 59) (v := ?_) (a' := ?_) (bl 5 3) rfl rfl (by kernel_rfl) (fun _ _ _ h => h) (Or.inl ⟨by rfl, ?_⟩) hHeld ?_ ?_
     rotate_left
     · rintro w' ⟨s0, s1, s2, s3, s4, s5, s6, s7, s8, s9, x9, y9⟩
       go_simp
       with_reducible rfl
     rotate_left
     · simp only [Act.put, zq1, zq2, zq3, i64_w, i32_w]
       rfl
     refine one_ (i := 2) (N := some 60) (bl 5 7) rfl rfl (by kernel_rfl) (by decide) (fun K hK => ?_)
     refine goes_ Try.func10 (by kernel_rfl) rfl #[.agg #[.slice D2 g1.length E2, .slice F2 i1.length G2, .slice I2 l1.length J2, .int .i64 m1, .int .i64 n1, .int .i64 o1]] (by rfl) rfl rfl zL ?_
     refine (laws_toOpt.calls O5 _ _ g1 _ _ i1 _ _ l1 m1 n1 o1 V5 X5 a6 a2q a2s a2t _ (zS y8) A8.out (zS B8) C8.out (zS D8) E8.out A98.out).mono ?_
     rintro e c7s ⟨v468, v471, v474, rfl, T0, e2, f2, hb⟩
     refine ⟨_, rfl, ?_⟩
     have R1 := zK (Kd.R_mono (Kd.R_told (Kd.R_told (Kd.R_told (Kd.R_old (zkR T3) hb) (Kd.R_base T0)) (Kd.R_base e2)) (Kd.R_base f2)) (fun _ h_ => h_.1))
     have S1 := zK (Kd.R_mono (Kd.R_told (Kd.R_told (Kd.R_told (Kd.R_old (zkR o0) hb) (Kd.R_base T0)) (Kd.R_base e2)) (Kd.R_base f2)) (fun _ h_ => h_.1))
     have T1 := zK (Kd.R_mono (Kd.R_told (Kd.R_told (Kd.R_told (Kd.R_old (zkR p0) hb) (Kd.R_base T0)) (Kd.R_base e2)) (Kd.R_base f2)) (fun _ h_ => h_.1))
     have a2 := zK (Kd.R_mono (Kd.R_told (Kd.R_told (Kd.R_told (Kd.R_old (zkR q0) hb) (Kd.R_base T0)) (Kd.R_base e2)) (Kd.R_base f2)) (fun _ h_ => h_.1))
     have b2 := zK (Kd.R_mono (Kd.R_told (Kd.R_told (Kd.R_told (Kd.R_old (zkR e0) hb) (Kd.R_base T0)) (Kd.R_base e2)) (Kd.R_base f2)) (fun _ h_ => h_.1))
     have d2 := zK (Kd.R_mono (Kd.R_told (Kd.R_told (Kd.R_told (Kd.R_old (zkR f0) hb) (Kd.R_base T0)) (Kd.R_base e2)) (Kd.R_base f2)) (fun _ h_ => h_.1))
     have i2 := zK (Kd.R_mono (Kd.R_told (Kd.R_told (Kd.R_told (Kd.R_old (zkR g0) hb) (Kd.R_base T0)) (Kd.R_base e2)) (Kd.R_base f2)) (fun _ h_ => h_.1))
     have m2 := zK (Kd.R_mono (Kd.R_told (Kd.R_told (Kd.R_told (Kd.R_old (zkR A) hb) (Kd.R_base T0)) (Kd.R_base e2)) (Kd.R_base f2)) (fun _ h_ => h_.1))
     have t2 := zK (Kd.R_mono (Kd.R_told (Kd.R_told (Kd.R_told (Kd.R_old (zkR B) hb) (Kd.R_base T0)) (Kd.R_base e2)) (Kd.R_base f2)) (fun _ h_ => h_.1))
     have x2 := zK (Kd.R_mono (Kd.R_told (Kd.R_told (Kd.R_told (Kd.R_old (zkR D) hb) (Kd.R_base T0)) (Kd.R_base e2)) (Kd.R_base f2)) (fun _ h_ => h_.1))
     have O1 := zK (Kd.R_lower (Kd.R_new' (Kd.R_new' (Kd.R_new' (Kd.R_new' (Kd.R_new' (Kd.R_new' (Kd.R_new' (Kd.R_new' (Kd.R_new' (Kd.R_new' T0 (Kd.R_lt (zkR T3))) (Kd.R_lt (zkR o0))) (Kd.R_lt (zkR p0))) (Kd.R_lt (zkR q0))) (Kd.R_lt (zkR e0))) (Kd.R_lt (zkR f0))) (Kd.R_lt (zkR g0))) (Kd.R_lt (zkR A))) (Kd.R_lt (zkR B))) (Kd.R_lt (zkR D))) (zz zB))
     have U1 := zK (Kd.R_lower (Kd.R_new' (Kd.R_new' (Kd.R_new' (Kd.R_new' (Kd.R_new' (Kd.R_new' (Kd.R_new' (Kd.R_new' (Kd.R_new' (Kd.R_new' e2 (Kd.R_lt (zkR T3))) (Kd.R_lt (zkR o0))) (Kd.R_lt (zkR p0))) (Kd.R_lt (zkR q0))) (Kd.R_lt (zkR e0))) (Kd.R_lt (zkR f0))) (Kd.R_lt (zkR g0))) (Kd.R_lt (zkR A))) (Kd.R_lt (zkR B))) (Kd.R_lt (zkR D))) (zz zB))
     have V1 := zK (Kd.R_lower (Kd.R_new' (Kd.R_new' (Kd.R_new' (Kd.R_new' (Kd.R_new' (Kd.R_new' (Kd.R_new' (Kd.R_new' (Kd.R_new' (Kd.R_new' f2 (Kd.R_lt (zkR T3))) (Kd.R_lt (zkR o0))) (Kd.R_lt (zkR p0))) (Kd.R_lt (zkR q0))) (Kd.R_lt (zkR e0))) (Kd.R_lt (zkR f0))) (Kd.R_lt (zkR g0))) (Kd.R_lt (zkR A))) (Kd.R_lt (zkR B))) (Kd.R_lt (zkR D))) (zz zB))
     have X1 := z7 a hb
     have g2 := z7 q hb
     have B2 := z7 n0 hb
     have L2 := z7 T hb
     have V2 := z7 G0 hb
     have b3 := z8 hb
     revert R1 S1 T1 a2 b2 d2 i2 m2 t2 x2 O1 U1 V1 X1 g2 B2 L2 V2 b3
     clear T3 o0 p0 q0 e0 f0 g0 A B D a q n0 T G0 HB
     intro T3 o0 p0 q0 e0 f0 g0 A B D C5 D5 E5 a q n0 T G0 HB
     (try clear hb)
     (try clear hb2)
     (try clear hk)
     (try clear hi)
     (try clear T0)
     (try clear e2)
     (try clear f2)
     obtain ⟨i5, j5, b0n⟩ := Kd.R_slice C5.out
     (first | subst b0n | (injection b0n with f1_ f2_ f3_; have f4_ := f1_.symm; have f5_ := f3_.symm; clear f1_ f2_ f3_; subst f4_; subst f5_))
     obtain ⟨l5, m5, b0o⟩ := Kd.R_slice D5.out
     (first | subst b0o | (injection b0o with f1_ f2_ f3_; have f4_ := f1_.symm; have f5_ := f3_.symm; clear f1_ f2_ f3_; subst f4_; subst f5_))
     obtain ⟨n5, o5, b0p⟩ := Kd.R_slice E5.out
     (first | subst b0p | (injection b0p with f1_ f2_ f3_; have f4_ := f1_.symm; have f5_ := f3_.symm; clear f1_ f2_ f3_; subst f4_; subst f5_))
     refine hK.out _ _ ⟨zy T 0, zy T 1, zy T 2, zy T 3, zy T 4, zy T 5, zy q 0, zy q 1, zy q 2, zy q 3, zy q 4, zy q 5⟩ (fun hHeld => ?_)
     clear hK K
     refine zU 60 ?_
     refine one_ (i := 3) (N := some 61) (bl 5 15) rfl rfl (by kernel_rfl) (by decide) (fun K hK => ?_)
     refine goes_ Try.func13 (by kernel_rfl) rfl #[.agg #[.slice E L1.length I, .slice J M1.length L, .slice M N1.length O, .int .i64 N3, .int .i64 O3, .int .i64 R3], .agg #[.slice i5 V5.length j5, .slice l5 X5.length m5, .slice n5 a6.length o5, .int .i64 a2q, .int .i64 a2s, .int .i64 a2t]] (by rfl) rfl rfl zL ?_
     refine (laws_eqOpt.calls O5 _ _ L1 _ _ M1 _ _ N1 N3 O3 R3 _ _ V5 _ _ X5 _ _ a6 a2q a2s a2t true _ (zC (Kd.R_reads' e0.out).2.2) ((Kd.R_reads' e0.out).2.1) (zC (Kd.R_reads' f0.out).2.2) ((Kd.R_reads' f0.out).2.1) (zC (Kd.R_reads' g0.out).2.2) ((Kd.R_reads' g0.out).2.1) (zC (Kd.R_reads' C5.out).2.2) ((Kd.R_reads' C5.out).2.1) (zC (Kd.R_reads' D5.out).2.2) ((Kd.R_reads' D5.out).2.1) (zC (Kd.R_reads' E5.out).2.2) ((Kd.R_reads' E5.out).2.1) A99.out).mono ?_
     rintro e c7t ⟨rfl, hb⟩
     refine ⟨_, rfl, ?_⟩
     have R1 := zK (Kd.R_below (zkR T3) hb)
     have S1 := zK (Kd.R_below (zkR o0) hb)
     have T1 := zK (Kd.R_below (zkR p0) hb)
     have a2 := zK (Kd.R_below (zkR q0) hb)
     have b2 := zK (Kd.R_below (zkR e0) hb)
     have d2 := zK (Kd.R_below (zkR f0) hb)
     have i2 := zK (Kd.R_below (zkR g0) hb)
     have m2 := zK (Kd.R_below (zkR A) hb)
     have t2 := zK (Kd.R_below (zkR B) hb)
     have x2 := zK (Kd.R_below (zkR D) hb)
     have O1 := zK (Kd.R_below (zkR C5) hb)
     have U1 := zK (Kd.R_below (zkR D5) hb)
     have V1 := zK (Kd.R_below (zkR E5) hb)
     have X1 := z7 a hb
     have g2 := z7 q hb
     have B2 := z7 n0 hb
     have L2 := z7 T hb
     have V2 := z7 G0 hb
     have b3 := z8 hb
     revert R1 S1 T1 a2 b2 d2 i2 m2 t2 x2 O1 U1 V1 X1 g2 B2 L2 V2 b3
     clear T3 o0 p0 q0 e0 f0 g0 A B D C5 D5 E5 a q n0 T G0 HB
     intro T3 o0 p0 q0 e0 f0 g0 A B D C5 D5 E5 a q n0 T G0 HB
     (try clear hb)
     (try clear hb2)
     (try clear hk)
     (try clear hi)
     refine hK.out _ _ ⟨zy T 0, zy T 1, zy T 2, zy T 3, zy T 4, zy T 5, zy q 0, zy q 1, zy q 2, zy q 3, zy q 4, zy q 5⟩ (fun hHeld => ?_)
     clear hK K
     refine zU 61 ?_
     refine pure_ (i := 4) (N := some 62) (v := ?_) (a' := ?_) (bl 5 31) rfl rfl (by kernel_rfl) (fun _ _ _ h => h) (Or.inl ⟨by rfl, ?_⟩) ?_ ?_
     rotate_left
     · intro w'
       go_simp
       with_reducible rfl
     rotate_left
     · simp only [Act.put, zq1, zq2, zq3, i64_w, i32_w]
       rfl
     refine done_ (by kernel_rfl) ?_
     go_upto_region 20 with (first | ((with_reducible refine gc 11 rfl ?_); refine zF 65 Try.func11 #[.slice A2 l2.length c2] rfl zL ?_; refine (laws_toIntS.calls O5 _ _ l2 R5 _ (zS U9) V9.out b4q.out).mono ?_; rintro e c7u ⟨v481, rfl, T0, hb⟩; refine ⟨_, rfl, ?_⟩; have R1 := zK (Kd.R_elder' (zkR T3) (Kd.R_base T0) hb); have S1 := zK (Kd.R_elder' (zkR o0) (Kd.R_base T0) hb); have T1 := zK (Kd.R_elder' (zkR p0) (Kd.R_base T0) hb); have a2 := zK (Kd.R_elder' (zkR q0) (Kd.R_base T0) hb); have b2 := zK (Kd.R_elder' (zkR e0) (Kd.R_base T0) hb); have d2 := zK (Kd.R_elder' (zkR f0) (Kd.R_base T0) hb); have i2 := zK (Kd.R_elder' (zkR g0) (Kd.R_base T0) hb); have m2 := zK (Kd.R_elder' (zkR A) (Kd.R_base T0) hb); have t2 := zK (Kd.R_elder' (zkR B) (Kd.R_base T0) hb); have x2 := zK (Kd.R_elder' (zkR D) (Kd.R_base T0) hb); have O1 := zK (Kd.R_elder' (zkR C5) (Kd.R_base T0) hb); have U1 := zK (Kd.R_elder' (zkR D5) (Kd.R_base T0) hb); have V1 := zK (Kd.R_elder' (zkR E5) (Kd.R_base T0) hb); have X1 := zK (Kd.R_lower (Kd.R_new' (Kd.R_new' (Kd.R_new' (Kd.R_new' (Kd.R_new' (Kd.R_new' (Kd.R_new' (Kd.R_new' (Kd.R_new' (Kd.R_new' (Kd.R_new' (Kd.R_new' (Kd.R_new' T0 (Kd.R_lt (zkR T3))) (Kd.R_lt (zkR o0))) (Kd.R_lt (zkR p0))) (Kd.R_lt (zkR q0))) (Kd.R_lt (zkR e0))) (Kd.R_lt (zkR f0))) (Kd.R_lt (zkR g0))) (Kd.R_lt (zkR A))) (Kd.R_lt (zkR B))) (Kd.R_lt (zkR D))) (Kd.R_lt (zkR C5))) (Kd.R_lt (zkR D5))) (Kd.R_lt (zkR E5))) (zz zB)); have g2 := z7 a hb; have B2 := z7 q hb; have L2 := z7 n0 hb; have V2 := z7 T hb; have b3 := z7 G0 hb; have G3 := z8 hb; revert R1 S1 T1 a2 b2 d2 i2 m2 t2 x2 O1 U1 V1 X1 g2 B2 L2 V2 b3 G3; clear T3 o0 p0 q0 e0 f0 g0 A B D C5 D5 E5 a q n0 T G0 HB; intro T3 o0 p0 q0 e0 f0 g0 A B D C5 D5 E5 D6 a q n0 T G0 HB; obtain ⟨p5, q5, b3n⟩ := Kd.R_slice D6.out; subst b3n) | ((with_reducible refine gc 14 rfl ?_); refine zF 66 Try.func14 #[.slice T2 J1.length U2, .slice p5 R5.length q5] rfl zL ?_; refine (laws_eqIntS.calls O5 _ _ J1 _ _ R5 true _ (zC (Kd.R_reads' T3.out).2.2) ((Kd.R_reads' T3.out).2.1) (zC (Kd.R_reads' D6.out).2.2) ((Kd.R_reads' D6.out).2.1) b4s.out).mono ?_; rintro e w' ⟨rfl, ⟨nd, rfl⟩⟩; refine ⟨_, rfl, ?_⟩; have b9x := n9.out; have b9y := m9.out; have b9z := p9.out; have c0a := o9.out; have c0b := C6.out; have c0c := B6.out; have c0d := G1.out; have c0e := X3.out; obtain ⟨a4l, a4m, a4n, a4o, a4p, a4q, a4s, a4t, a4u, a4x, a4y, a4z⟩ := zc6 T) | ((with_reducible refine gc 15 rfl ?_); refine zF 70 Try.func15 #[.agg #[.slice E L1.length I, .slice J M1.length L, .slice M N1.length O, .int .i64 N3, .int .i64 O3, .int .i64 R3], .int .i64 1] rfl zL ?_; (with_reducible refine (laws_markOpt.calls O5 (fun k_ => some k_ = (.slice E L1.length I : Value).ownBlock) (.slice E L1.length I) L1 (fun k_ => some k_ = (.slice J M1.length L : Value).ownBlock) (.slice J M1.length L) M1 (fun k_ => some k_ = (.slice M N1.length O : Value).ownBlock) (.slice M N1.length O) N1 N3 O3 R3 1 a2x D0 E0 F0 w _ ?side1 ?side2 ?side3 ?side4 ?side5 ?side6 ?side7 ?side8 ?side9 ?side10 b4t.out).mono ?_); (case side1 => repeat (first | (with_reducible first | exact HB.out | apply zb | apply zw | apply ze | refine zs ?_ a2n.out | refine zs ?_ a2o.out | refine zs ?_ T5.out | refine zs ?_ a2p.out | refine zs ?_ X7.out) | exact HB.out)); (case side2 => exact Kd.R_tight rfl e0.out); (case side3 => exact fun k_ e_ => (e0.out.1 k_ e_.symm).1.1.1.1.2.2.2.2.1); (case side4 => exact fun k_ e_ => (e0.out.1 k_ e_.symm).1.1.1.1.2.2.2.2.2.1); (case side5 => exact Kd.R_tight rfl f0.out); (case side6 => exact fun k_ e_ => (f0.out.1 k_ e_.symm).1.1.1.1.2.2.2.2.1); (case side7 => exact fun k_ e_ => (f0.out.1 k_ e_.symm).1.1.1.1.2.2.2.2.2.1); (case side8 => exact Kd.R_tight rfl g0.out); (case side9 => exact fun k_ e_ => (g0.out.1 k_ e_.symm).1.1.1.1.2.2.2.2.1); (case side10 => exact fun k_ e_ => (g0.out.1 k_ e_.symm).1.1.1.1.2.2.2.2.2.1); rintro e c7x ⟨rfl, q9, hy1, hy2, hb, hkp⟩; refine ⟨_, rfl, ?_⟩; have R1 := zK (Kd.R_mono (ok' := fun k_ => zo (.slice i0 u.length b0) k_ ∧ zo (.slice l0 x.length c0) k_ ∧ zo (.slice m0 y.length d0) k_ ∧ zo (.slice E L1.length I) k_ ∧ zo (.slice J M1.length L) k_ ∧ zo (.slice M N1.length O) k_ ∧ zo (.slice A0 U.length t0) k_ ∧ zo (.slice B0 X.length x0) k_ ∧ zo (.slice C0 a0.length y0) k_ ∧ zo (.slice i5 V5.length j5) k_ ∧ zo (.slice l5 X5.length m5) k_ ∧ zo (.slice n5 a6.length o5) k_ ∧ zo (.slice p5 R5.length q5) k_) (Kd.R_keptB (T3.out) hkp (fun k_ hk_ hs_ => Or.elim hs_ (fun e_ => (hk_.1.1.1.1.2.2.2.1) e_) (fun e_ => Or.elim e_ (fun e_ => (hk_.1.1.1.1.2.2.2.2.1) e_) (fun e_ => (hk_.1.1.1.1.2.2.2.2.2.1) e_)))) (fun k_ hk_ => ⟨hk_.1.1.1.1.1.1, hk_.1.1.1.1.1.2.1, hk_.1.1.1.1.1.2.2.1, hk_.1.1.1.1.1.2.2.2.1, hk_.1.1.1.1.1.2.2.2.2.1, hk_.1.1.1.1.1.2.2.2.2.2.1, hk_.1.1.1.1.1.2.2.2.2.2.2.1, hk_.1.1.1.1.1.2.2.2.2.2.2.2.1, hk_.1.1.1.1.1.2.2.2.2.2.2.2.2, hk_.1.1.1.1.2, hk_.1.1.1.2, hk_.1.1.2, hk_.1.2⟩)); have S1 := zK (Kd.R_mono (ok' := fun k_ => zo (.slice T2 J1.length U2) k_ ∧ zo (.slice l0 x.length c0) k_ ∧ zo (.slice m0 y.length d0) k_ ∧ zo (.slice E L1.length I) k_ ∧ zo (.slice J M1.length L) k_ ∧ zo (.slice M N1.length O) k_ ∧ zo (.slice A0 U.length t0) k_ ∧ zo (.slice B0 X.length x0) k_ ∧ zo (.slice C0 a0.length y0) k_ ∧ zo (.slice i5 V5.length j5) k_ ∧ zo (.slice l5 X5.length m5) k_ ∧ zo (.slice n5 a6.length o5) k_ ∧ zo (.slice p5 R5.length q5) k_) (Kd.R_keptB (o0.out) hkp (fun k_ hk_ hs_ => Or.elim hs_ (fun e_ => (hk_.1.1.1.1.2.2.2.1) e_) (fun e_ => Or.elim e_ (fun e_ => (hk_.1.1.1.1.2.2.2.2.1) e_) (fun e_ => (hk_.1.1.1.1.2.2.2.2.2.1) e_)))) (fun k_ hk_ => ⟨hk_.1.1.1.1.1.1, hk_.1.1.1.1.1.2.1, hk_.1.1.1.1.1.2.2.1, hk_.1.1.1.1.1.2.2.2.1, hk_.1.1.1.1.1.2.2.2.2.1, hk_.1.1.1.1.1.2.2.2.2.2.1, hk_.1.1.1.1.1.2.2.2.2.2.2.1, hk_.1.1.1.1.1.2.2.2.2.2.2.2.1, hk_.1.1.1.1.1.2.2.2.2.2.2.2.2, hk_.1.1.1.1.2, hk_.1.1.1.2, hk_.1.1.2, hk_.1.2⟩)); have T1 := zK (Kd.R_mono (ok' := fun k_ => zo (.slice T2 J1.length U2) k_ ∧ zo (.slice i0 u.length b0) k_ ∧ zo (.slice m0 y.length d0) k_ ∧ zo (.slice E L1.length I) k_ ∧ zo (.slice J M1.length L) k_ ∧ zo (.slice M N1.length O) k_ ∧ zo (.slice A0 U.length t0) k_ ∧ zo (.slice B0 X.length x0) k_ ∧ zo (.slice C0 a0.length y0) k_ ∧ zo (.slice i5 V5.length j5) k_ ∧ zo (.slice l5 X5.length m5) k_ ∧ zo (.slice n5 a6.length o5) k_ ∧ zo (.slice p5 R5.length q5) k_) (Kd.R_keptB (p0.out) hkp (fun k_ hk_ hs_ => Or.elim hs_ (fun e_ => (hk_.1.1.1.1.2.2.2.1) e_) (fun e_ => Or.elim e_ (fun e_ => (hk_.1.1.1.1.2.2.2.2.1) e_) (fun e_ => (hk_.1.1.1.1.2.2.2.2.2.1) e_)))) (fun k_ hk_ => ⟨hk_.1.1.1.1.1.1, hk_.1.1.1.1.1.2.1, hk_.1.1.1.1.1.2.2.1, hk_.1.1.1.1.1.2.2.2.1, hk_.1.1.1.1.1.2.2.2.2.1, hk_.1.1.1.1.1.2.2.2.2.2.1, hk_.1.1.1.1.1.2.2.2.2.2.2.1, hk_.1.1.1.1.1.2.2.2.2.2.2.2.1, hk_.1.1.1.1.1.2.2.2.2.2.2.2.2, hk_.1.1.1.1.2, hk_.1.1.1.2, hk_.1.1.2, hk_.1.2⟩)); have a2 := zK (Kd.R_mono (ok' := fun k_ => zo (.slice T2 J1.length U2) k_ ∧ zo (.slice i0 u.length b0) k_ ∧ zo (.slice l0 x.length c0) k_ ∧ zo (.slice E L1.length I) k_ ∧ zo (.slice J M1.length L) k_ ∧ zo (.slice M N1.length O) k_ ∧ zo (.slice A0 U.length t0) k_ ∧ zo (.slice B0 X.length x0) k_ ∧ zo (.slice C0 a0.length y0) k_ ∧ zo (.slice i5 V5.length j5) k_ ∧ zo (.slice l5 X5.length m5) k_ ∧ zo (.slice n5 a6.length o5) k_ ∧ zo (.slice p5 R5.length q5) k_) (Kd.R_keptB (q0.out) hkp (fun k_ hk_ hs_ => Or.elim hs_ (fun e_ => (hk_.1.1.1.1.2.2.2.1) e_) (fun e_ => Or.elim e_ (fun e_ => (hk_.1.1.1.1.2.2.2.2.1) e_) (fun e_ => (hk_.1.1.1.1.2.2.2.2.2.1) e_)))) (fun k_ hk_ => ⟨hk_.1.1.1.1.1.1, hk_.1.1.1.1.1.2.1, hk_.1.1.1.1.1.2.2.1, hk_.1.1.1.1.1.2.2.2.1, hk_.1.1.1.1.1.2.2.2.2.1, hk_.1.1.1.1.1.2.2.2.2.2.1, hk_.1.1.1.1.1.2.2.2.2.2.2.1, hk_.1.1.1.1.1.2.2.2.2.2.2.2.1, hk_.1.1.1.1.1.2.2.2.2.2.2.2.2, hk_.1.1.1.1.2, hk_.1.1.1.2, hk_.1.1.2, hk_.1.2⟩)); have b2 := zK (Kd.R_reok rfl q9 (fun k_ e_ => e0.out.1 k_ e_)); have d2 := zK (Kd.R_reok rfl hy1 (fun k_ e_ => f0.out.1 k_ e_)); have i2 := zK (Kd.R_reok rfl hy2 (fun k_ e_ => g0.out.1 k_ e_)); have m2 := zK (Kd.R_mono (ok' := fun k_ => zo (.slice T2 J1.length U2) k_ ∧ zo (.slice i0 u.length b0) k_ ∧ zo (.slice l0 x.length c0) k_ ∧ zo (.slice m0 y.length d0) k_ ∧ zo (.slice E L1.length I) k_ ∧ zo (.slice J M1.length L) k_ ∧ zo (.slice M N1.length O) k_ ∧ zo (.slice B0 X.length x0) k_ ∧ zo (.slice C0 a0.length y0) k_ ∧ zo (.slice i5 V5.length j5) k_ ∧ zo (.slice l5 X5.length m5) k_ ∧ zo (.slice n5 a6.length o5) k_ ∧ zo (.slice p5 R5.length q5) k_) (Kd.R_keptB (A.out) hkp (fun k_ hk_ hs_ => Or.elim hs_ (fun e_ => (hk_.1.1.1.1.2.2.2.2.1) e_) (fun e_ => Or.elim e_ (fun e_ => (hk_.1.1.1.1.2.2.2.2.2.1) e_) (fun e_ => (hk_.1.1.1.1.2.2.2.2.2.2.1) e_)))) (fun k_ hk_ => ⟨hk_.1.1.1.1.1.1, hk_.1.1.1.1.1.2.1, hk_.1.1.1.1.1.2.2.1, hk_.1.1.1.1.1.2.2.2.1, hk_.1.1.1.1.1.2.2.2.2.1, hk_.1.1.1.1.1.2.2.2.2.2.1, hk_.1.1.1.1.1.2.2.2.2.2.2.1, hk_.1.1.1.1.1.2.2.2.2.2.2.2.1, hk_.1.1.1.1.1.2.2.2.2.2.2.2.2, hk_.1.1.1.1.2, hk_.1.1.1.2, hk_.1.1.2, hk_.1.2⟩)); have t2 := zK (Kd.R_mono (ok' := fun k_ => zo (.slice T2 J1.length U2) k_ ∧ zo (.slice i0 u.length b0) k_ ∧ zo (.slice l0 x.length c0) k_ ∧ zo (.slice m0 y.length d0) k_ ∧ zo (.slice E L1.length I) k_ ∧ zo (.slice J M1.length L) k_ ∧ zo (.slice M N1.length O) k_ ∧ zo (.slice A0 U.length t0) k_ ∧ zo (.slice C0 a0.length y0) k_ ∧ zo (.slice i5 V5.length j5) k_ ∧ zo (.slice l5 X5.length m5) k_ ∧ zo (.slice n5 a6.length o5) k_ ∧ zo (.slice p5 R5.length q5) k_) (Kd.R_keptB (B.out) hkp (fun k_ hk_ hs_ => Or.elim hs_ (fun e_ => (hk_.1.1.1.1.2.2.2.2.1) e_) (fun e_ => Or.elim e_ (fun e_ => (hk_.1.1.1.1.2.2.2.2.2.1) e_) (fun e_ => (hk_.1.1.1.1.2.2.2.2.2.2.1) e_)))) (fun k_ hk_ => ⟨hk_.1.1.1.1.1.1, hk_.1.1.1.1.1.2.1, hk_.1.1.1.1.1.2.2.1, hk_.1.1.1.1.1.2.2.2.1, hk_.1.1.1.1.1.2.2.2.2.1, hk_.1.1.1.1.1.2.2.2.2.2.1, hk_.1.1.1.1.1.2.2.2.2.2.2.1, hk_.1.1.1.1.1.2.2.2.2.2.2.2.1, hk_.1.1.1.1.1.2.2.2.2.2.2.2.2, hk_.1.1.1.1.2, hk_.1.1.1.2, hk_.1.1.2, hk_.1.2⟩)); have x2 := zK (Kd.R_mono (ok' := fun k_ => zo (.slice T2 J1.length U2) k_ ∧ zo (.slice i0 u.length b0) k_ ∧ zo (.slice l0 x.length c0) k_ ∧ zo (.slice m0 y.length d0) k_ ∧ zo (.slice E L1.length I) k_ ∧ zo (.slice J M1.length L) k_ ∧ zo (.slice M N1.length O) k_ ∧ zo (.slice A0 U.length t0) k_ ∧ zo (.slice B0 X.length x0) k_ ∧ zo (.slice i5 V5.length j5) k_ ∧ zo (.slice l5 X5.length m5) k_ ∧ zo (.slice n5 a6.length o5) k_ ∧ zo (.slice p5 R5.length q5) k_) (Kd.R_keptB (D.out) hkp (fun k_ hk_ hs_ => Or.elim hs_ (fun e_ => (hk_.1.1.1.1.2.2.2.2.1) e_) (fun e_ => Or.elim e_ (fun e_ => (hk_.1.1.1.1.2.2.2.2.2.1) e_) (fun e_ => (hk_.1.1.1.1.2.2.2.2.2.2.1) e_)))) (fun k_ hk_ => ⟨hk_.1.1.1.1.1.1, hk_.1.1.1.1.1.2.1, hk_.1.1.1.1.1.2.2.1, hk_.1.1.1.1.1.2.2.2.1, hk_.1.1.1.1.1.2.2.2.2.1, hk_.1.1.1.1.1.2.2.2.2.2.1, hk_.1.1.1.1.1.2.2.2.2.2.2.1, hk_.1.1.1.1.1.2.2.2.2.2.2.2.1, hk_.1.1.1.1.1.2.2.2.2.2.2.2.2, hk_.1.1.1.1.2, hk_.1.1.1.2, hk_.1.1.2, hk_.1.2⟩)); have O1 := zK (blk_kept (zM a) hkp (fun hs_ => Or.elim hs_ (fun e_ => (fun e_ => (Kd.R_ne e0.out a.out (by decide)) e_) e_) (fun e_ => Or.elim e_ (fun e_ => (fun e_ => (Kd.R_ne f0.out a.out (by decide)) e_) e_) (fun e_ => (fun e_ => (Kd.R_ne g0.out a.out (by decide)) e_) e_)))); have U1 := zK (blk_kept (zM q) hkp (fun hs_ => Or.elim hs_ (fun e_ => (fun e_ => (Kd.R_ne e0.out q.out (by decide)) e_) e_) (fun e_ => Or.elim e_ (fun e_ => (fun e_ => (Kd.R_ne f0.out q.out (by decide)) e_) e_) (fun e_ => (fun e_ => (Kd.R_ne g0.out q.out (by decide)) e_) e_)))); have V1 := zK (blk_kept (zM n0) hkp (fun hs_ => Or.elim hs_ (fun e_ => (fun e_ => (Kd.R_ne e0.out n0.out (by decide)) e_) e_) (fun e_ => Or.elim e_ (fun e_ => (fun e_ => (Kd.R_ne f0.out n0.out (by decide)) e_) e_) (fun e_ => (fun e_ => (Kd.R_ne g0.out n0.out (by decide)) e_) e_)))); have X1 := zK (blk_kept (zM T) hkp (fun hs_ => Or.elim hs_ (fun e_ => (fun e_ => (Kd.R_ne e0.out T.out (by decide)) e_) e_) (fun e_ => Or.elim e_ (fun e_ => (fun e_ => (Kd.R_ne f0.out T.out (by decide)) e_) e_) (fun e_ => (fun e_ => (Kd.R_ne g0.out T.out (by decide)) e_) e_)))); have g2 := zK (blk_kept (zM G0) hkp (fun hs_ => Or.elim hs_ (fun e_ => (fun e_ => (Kd.R_ne e0.out G0.out (by decide)) e_) e_) (fun e_ => Or.elim e_ (fun e_ => (fun e_ => (Kd.R_ne f0.out G0.out (by decide)) e_) e_) (fun e_ => (fun e_ => (Kd.R_ne g0.out G0.out (by decide)) e_) e_)))); have B2 := zK (Kd.R_mono (ok' := fun k_ => zo (.slice T2 J1.length U2) k_ ∧ zo (.slice i0 u.length b0) k_ ∧ zo (.slice l0 x.length c0) k_ ∧ zo (.slice m0 y.length d0) k_ ∧ zo (.slice E L1.length I) k_ ∧ zo (.slice J M1.length L) k_ ∧ zo (.slice M N1.length O) k_ ∧ zo (.slice A0 U.length t0) k_ ∧ zo (.slice B0 X.length x0) k_ ∧ zo (.slice C0 a0.length y0) k_ ∧ zo (.slice l5 X5.length m5) k_ ∧ zo (.slice n5 a6.length o5) k_ ∧ zo (.slice p5 R5.length q5) k_) (Kd.R_keptB (C5.out) hkp (fun k_ hk_ hs_ => Or.elim hs_ (fun e_ => (hk_.1.1.1.1.1.1.2) e_) (fun e_ => Or.elim e_ (fun e_ => (hk_.1.1.1.1.1.2) e_) (fun e_ => (hk_.1.1.1.1.2) e_)))) (fun k_ hk_ => ⟨hk_.1.1.1.1.1.1.1.1.1.1.1.2, hk_.1.1.1.1.1.1.1.1.1.1.2, hk_.1.1.1.1.1.1.1.1.1.2, hk_.1.1.1.1.1.1.1.1.2, hk_.1.1.1.1.1.1.1.2, hk_.1.1.1.1.1.1.2, hk_.1.1.1.1.1.2, hk_.1.1.1.1.2, hk_.1.1.1.2, hk_.1.1.2, hk_.1.1.1.1.1.1.1.1.1.1.1.1.1, hk_.1.1.1.1.1.1.1.1.1.1.1.1.2, hk_.1.2⟩)); have L2 := zK (Kd.R_mono (ok' := fun k_ => zo (.slice T2 J1.length U2) k_ ∧ zo (.slice i0 u.length b0) k_ ∧ zo (.slice l0 x.length c0) k_ ∧ zo (.slice m0 y.length d0) k_ ∧ zo (.slice E L1.length I) k_ ∧ zo (.slice J M1.length L) k_ ∧ zo (.slice M N1.length O) k_ ∧ zo (.slice A0 U.length t0) k_ ∧ zo (.slice B0 X.length x0) k_ ∧ zo (.slice C0 a0.length y0) k_ ∧ zo (.slice i5 V5.length j5) k_ ∧ zo (.slice n5 a6.length o5) k_ ∧ zo (.slice p5 R5.length q5) k_) (Kd.R_keptB (D5.out) hkp (fun k_ hk_ hs_ => Or.elim hs_ (fun e_ => (hk_.1.1.1.1.1.1.2) e_) (fun e_ => Or.elim e_ (fun e_ => (hk_.1.1.1.1.1.2) e_) (fun e_ => (hk_.1.1.1.1.2) e_)))) (fun k_ hk_ => ⟨hk_.1.1.1.1.1.1.1.1.1.1.1.2, hk_.1.1.1.1.1.1.1.1.1.1.2, hk_.1.1.1.1.1.1.1.1.1.2, hk_.1.1.1.1.1.1.1.1.2, hk_.1.1.1.1.1.1.1.2, hk_.1.1.1.1.1.1.2, hk_.1.1.1.1.1.2, hk_.1.1.1.1.2, hk_.1.1.1.2, hk_.1.1.2, hk_.1.1.1.1.1.1.1.1.1.1.1.1.1, hk_.1.1.1.1.1.1.1.1.1.1.1.1.2, hk_.1.2⟩)); have V2 := zK (Kd.R_mono (ok' := fun k_ => zo (.slice T2 J1.length U2) k_ ∧ zo (.slice i0 u.length b0) k_ ∧ zo (.slice l0 x.length c0) k_ ∧ zo (.slice m0 y.length d0) k_ ∧ zo (.slice E L1.length I) k_ ∧ zo (.slice J M1.length L) k_ ∧ zo (.slice M N1.length O) k_ ∧ zo (.slice A0 U.length t0) k_ ∧ zo (.slice B0 X.length x0) k_ ∧ zo (.slice C0 a0.length y0) k_ ∧ zo (.slice i5 V5.length j5) k_ ∧ zo (.slice l5 X5.length m5) k_ ∧ zo (.slice p5 R5.length q5) k_) (Kd.R_keptB (E5.out) hkp (fun k_ hk_ hs_ => Or.elim hs_ (fun e_ => (hk_.1.1.1.1.1.1.2) e_) (fun e_ => Or.elim e_ (fun e_ => (hk_.1.1.1.1.1.2) e_) (fun e_ => (hk_.1.1.1.1.2) e_)))) (fun k_ hk_ => ⟨hk_.1.1.1.1.1.1.1.1.1.1.1.2, hk_.1.1.1.1.1.1.1.1.1.1.2, hk_.1.1.1.1.1.1.1.1.1.2, hk_.1.1.1.1.1.1.1.1.2, hk_.1.1.1.1.1.1.1.2, hk_.1.1.1.1.1.1.2, hk_.1.1.1.1.1.2, hk_.1.1.1.1.2, hk_.1.1.1.2, hk_.1.1.2, hk_.1.1.1.1.1.1.1.1.1.1.1.1.1, hk_.1.1.1.1.1.1.1.1.1.1.1.1.2, hk_.1.2⟩)); have b3 := zK (Kd.R_mono (ok' := fun k_ => zo (.slice T2 J1.length U2) k_ ∧ zo (.slice i0 u.length b0) k_ ∧ zo (.slice l0 x.length c0) k_ ∧ zo (.slice m0 y.length d0) k_ ∧ zo (.slice E L1.length I) k_ ∧ zo (.slice J M1.length L) k_ ∧ zo (.slice M N1.length O) k_ ∧ zo (.slice A0 U.length t0) k_ ∧ zo (.slice B0 X.length x0) k_ ∧ zo (.slice C0 a0.length y0) k_ ∧ zo (.slice i5 V5.length j5) k_ ∧ zo (.slice l5 X5.length m5) k_ ∧ zo (.slice n5 a6.length o5) k_) (Kd.R_keptB (D6.out) hkp (fun k_ hk_ hs_ => Or.elim hs_ (fun e_ => (hk_.1.1.1.1.1.1.1.1.2) e_) (fun e_ => Or.elim e_ (fun e_ => (hk_.1.1.1.1.1.1.1.2) e_) (fun e_ => (hk_.1.1.1.1.1.1.2) e_)))) (fun k_ hk_ => ⟨hk_.1.1.1.1.1.1.1.1.1.1.1.1.1.2, hk_.1.1.1.1.1.1.1.1.1.1.1.1.2, hk_.1.1.1.1.1.1.1.1.1.1.1.2, hk_.1.1.1.1.1.1.1.1.1.1.2, hk_.1.1.1.1.1.1.1.1.1.2, hk_.1.1.1.1.1.1.1.1.2, hk_.1.1.1.1.1.1.1.2, hk_.1.1.1.1.1.1.2, hk_.1.1.1.1.1.2, hk_.1.1.1.1.2, hk_.1.1.1.2, hk_.1.1.2, hk_.1.2⟩)); have G3 := zK (hb); revert R1 S1 T1 a2 b2 d2 i2 m2 t2 x2 O1 U1 V1 X1 g2 B2 L2 V2 b3 G3; clear T3 o0 p0 q0 e0 f0 g0 A B D a q n0 T G0 C5 D5 E5 D6 HB; intro T3 o0 p0 q0 e0 f0 g0 A B D a q n0 T G0 C5 D5 E5 D6 HB; (try clear hkp); (try clear q9); (try clear hy1); (try clear hy2)) | ((with_reducible refine gc 16 rfl ?_); refine zF 73 Try.func16 #[.slice T2 J1.length U2, .int .i64 a2x] rfl zL ?_; (with_reducible refine (laws_markIntS.calls O5 (fun k_ => some k_ = (.slice T2 J1.length U2 : Value).ownBlock) (.slice T2 J1.length U2) J1 a2x a4j b4u w _ ?side1 ?side2 b4x.out).mono ?_); (case side1 => repeat (first | (with_reducible first | exact HB.out | apply zb | apply zw | apply ze | refine zs ?_ a2n.out | refine zs ?_ a2o.out | refine zs ?_ T5.out | refine zs ?_ a2p.out | refine zs ?_ X7.out) | exact HB.out)); (case side2 => exact Kd.R_tight rfl T3.out); rintro e c7y ⟨rfl, q9, hb, hkp⟩; refine ⟨_, rfl, ?_⟩; have R1 := zK (Kd.R_reok rfl q9 (fun k_ e_ => T3.out.1 k_ e_)); have S1 := zK (Kd.R_mono (ok' := fun k_ => zo (.slice T2 J1.length U2) k_ ∧ zo (.slice l0 x.length c0) k_ ∧ zo (.slice m0 y.length d0) k_ ∧ zo (.slice E L1.length I) k_ ∧ zo (.slice J M1.length L) k_ ∧ zo (.slice M N1.length O) k_ ∧ zo (.slice A0 U.length t0) k_ ∧ zo (.slice B0 X.length x0) k_ ∧ zo (.slice C0 a0.length y0) k_ ∧ zo (.slice i5 V5.length j5) k_ ∧ zo (.slice l5 X5.length m5) k_ ∧ zo (.slice n5 a6.length o5) k_ ∧ zo (.slice p5 R5.length q5) k_) (Kd.R_keptB (o0.out) hkp (fun k_ hk_ hs_ => (hk_.1) hs_)) (fun k_ hk_ => ⟨hk_.1.1, hk_.1.2.1, hk_.1.2.2.1, hk_.1.2.2.2.1, hk_.1.2.2.2.2.1, hk_.1.2.2.2.2.2.1, hk_.1.2.2.2.2.2.2.1, hk_.1.2.2.2.2.2.2.2.1, hk_.1.2.2.2.2.2.2.2.2.1, hk_.1.2.2.2.2.2.2.2.2.2.1, hk_.1.2.2.2.2.2.2.2.2.2.2.1, hk_.1.2.2.2.2.2.2.2.2.2.2.2.1, hk_.1.2.2.2.2.2.2.2.2.2.2.2.2⟩)); have T1 := zK (Kd.R_mono (ok' := fun k_ => zo (.slice T2 J1.length U2) k_ ∧ zo (.slice i0 u.length b0) k_ ∧ zo (.slice m0 y.length d0) k_ ∧ zo (.slice E L1.length I) k_ ∧ zo (.slice J M1.length L) k_ ∧ zo (.slice M N1.length O) k_ ∧ zo (.slice A0 U.length t0) k_ ∧ zo (.slice B0 X.length x0) k_ ∧ zo (.slice C0 a0.length y0) k_ ∧ zo (.slice i5 V5.length j5) k_ ∧ zo (.slice l5 X5.length m5) k_ ∧ zo (.slice n5 a6.length o5) k_ ∧ zo (.slice p5 R5.length q5) k_) (Kd.R_keptB (p0.out) hkp (fun k_ hk_ hs_ => (hk_.1) hs_)) (fun k_ hk_ => ⟨hk_.1.1, hk_.1.2.1, hk_.1.2.2.1, hk_.1.2.2.2.1, hk_.1.2.2.2.2.1, hk_.1.2.2.2.2.2.1, hk_.1.2.2.2.2.2.2.1, hk_.1.2.2.2.2.2.2.2.1, hk_.1.2.2.2.2.2.2.2.2.1, hk_.1.2.2.2.2.2.2.2.2.2.1, hk_.1.2.2.2.2.2.2.2.2.2.2.1, hk_.1.2.2.2.2.2.2.2.2.2.2.2.1, hk_.1.2.2.2.2.2.2.2.2.2.2.2.2⟩)); have a2 := zK (Kd.R_mono (ok' := fun k_ => zo (.slice T2 J1.length U2) k_ ∧ zo (.slice i0 u.length b0) k_ ∧ zo (.slice l0 x.length c0) k_ ∧ zo (.slice E L1.length I) k_ ∧ zo (.slice J M1.length L) k_ ∧ zo (.slice M N1.length O) k_ ∧ zo (.slice A0 U.length t0) k_ ∧ zo (.slice B0 X.length x0) k_ ∧ zo (.slice C0 a0.length y0) k_ ∧ zo (.slice i5 V5.length j5) k_ ∧ zo (.slice l5 X5.length m5) k_ ∧ zo (.slice n5 a6.length o5) k_ ∧ zo (.slice p5 R5.length q5) k_) (Kd.R_keptB (q0.out) hkp (fun k_ hk_ hs_ => (hk_.1) hs_)) (fun k_ hk_ => ⟨hk_.1.1, hk_.1.2.1, hk_.1.2.2.1, hk_.1.2.2.2.1, hk_.1.2.2.2.2.1, hk_.1.2.2.2.2.2.1, hk_.1.2.2.2.2.2.2.1, hk_.1.2.2.2.2.2.2.2.1, hk_.1.2.2.2.2.2.2.2.2.1, hk_.1.2.2.2.2.2.2.2.2.2.1, hk_.1.2.2.2.2.2.2.2.2.2.2.1, hk_.1.2.2.2.2.2.2.2.2.2.2.2.1, hk_.1.2.2.2.2.2.2.2.2.2.2.2.2⟩)); have b2 := zK (Kd.R_mono (ok' := fun k_ => zo (.slice T2 J1.length U2) k_ ∧ zo (.slice i0 u.length b0) k_ ∧ zo (.slice l0 x.length c0) k_ ∧ zo (.slice m0 y.length d0) k_ ∧ zo (.slice J M1.length L) k_ ∧ zo (.slice M N1.length O) k_ ∧ zo (.slice A0 U.length t0) k_ ∧ zo (.slice B0 X.length x0) k_ ∧ zo (.slice C0 a0.length y0) k_ ∧ zo (.slice i5 V5.length j5) k_ ∧ zo (.slice l5 X5.length m5) k_ ∧ zo (.slice n5 a6.length o5) k_ ∧ zo (.slice p5 R5.length q5) k_) (Kd.R_keptB (e0.out) hkp (fun k_ hk_ hs_ => (hk_.1.1.1.1.1) hs_)) (fun k_ hk_ => ⟨hk_.1.1.1.1.1.1, hk_.1.1.1.1.1.2.1, hk_.1.1.1.1.1.2.2.1, hk_.1.1.1.1.1.2.2.2.1, hk_.1.1.1.1.1.2.2.2.2.1, hk_.1.1.1.1.1.2.2.2.2.2.1, hk_.1.1.1.1.1.2.2.2.2.2.2.1, hk_.1.1.1.1.1.2.2.2.2.2.2.2.1, hk_.1.1.1.1.1.2.2.2.2.2.2.2.2, hk_.1.1.1.1.2, hk_.1.1.1.2, hk_.1.1.2, hk_.1.2⟩)); have d2 := zK (Kd.R_mono (ok' := fun k_ => zo (.slice T2 J1.length U2) k_ ∧ zo (.slice i0 u.length b0) k_ ∧ zo (.slice l0 x.length c0) k_ ∧ zo (.slice m0 y.length d0) k_ ∧ zo (.slice E L1.length I) k_ ∧ zo (.slice M N1.length O) k_ ∧ zo (.slice A0 U.length t0) k_ ∧ zo (.slice B0 X.length x0) k_ ∧ zo (.slice C0 a0.length y0) k_ ∧ zo (.slice i5 V5.length j5) k_ ∧ zo (.slice l5 X5.length m5) k_ ∧ zo (.slice n5 a6.length o5) k_ ∧ zo (.slice p5 R5.length q5) k_) (Kd.R_keptB (f0.out) hkp (fun k_ hk_ hs_ => (hk_.1.1.1.1.1) hs_)) (fun k_ hk_ => ⟨hk_.1.1.1.1.1.1, hk_.1.1.1.1.1.2.1, hk_.1.1.1.1.1.2.2.1, hk_.1.1.1.1.1.2.2.2.1, hk_.1.1.1.1.1.2.2.2.2.1, hk_.1.1.1.1.1.2.2.2.2.2.1, hk_.1.1.1.1.1.2.2.2.2.2.2.1, hk_.1.1.1.1.1.2.2.2.2.2.2.2.1, hk_.1.1.1.1.1.2.2.2.2.2.2.2.2, hk_.1.1.1.1.2, hk_.1.1.1.2, hk_.1.1.2, hk_.1.2⟩)); have i2 := zK (Kd.R_mono (ok' := fun k_ => zo (.slice T2 J1.length U2) k_ ∧ zo (.slice i0 u.length b0) k_ ∧ zo (.slice l0 x.length c0) k_ ∧ zo (.slice m0 y.length d0) k_ ∧ zo (.slice E L1.length I) k_ ∧ zo (.slice J M1.length L) k_ ∧ zo (.slice A0 U.length t0) k_ ∧ zo (.slice B0 X.length x0) k_ ∧ zo (.slice C0 a0.length y0) k_ ∧ zo (.slice i5 V5.length j5) k_ ∧ zo (.slice l5 X5.length m5) k_ ∧ zo (.slice n5 a6.length o5) k_ ∧ zo (.slice p5 R5.length q5) k_) (Kd.R_keptB (g0.out) hkp (fun k_ hk_ hs_ => (hk_.1.1.1.1.1) hs_)) (fun k_ hk_ => ⟨hk_.1.1.1.1.1.1, hk_.1.1.1.1.1.2.1, hk_.1.1.1.1.1.2.2.1, hk_.1.1.1.1.1.2.2.2.1, hk_.1.1.1.1.1.2.2.2.2.1, hk_.1.1.1.1.1.2.2.2.2.2.1, hk_.1.1.1.1.1.2.2.2.2.2.2.1, hk_.1.1.1.1.1.2.2.2.2.2.2.2.1, hk_.1.1.1.1.1.2.2.2.2.2.2.2.2, hk_.1.1.1.1.2, hk_.1.1.1.2, hk_.1.1.2, hk_.1.2⟩)); have m2 := zK (Kd.R_mono (ok' := fun k_ => zo (.slice T2 J1.length U2) k_ ∧ zo (.slice i0 u.length b0) k_ ∧ zo (.slice l0 x.length c0) k_ ∧ zo (.slice m0 y.length d0) k_ ∧ zo (.slice E L1.length I) k_ ∧ zo (.slice J M1.length L) k_ ∧ zo (.slice M N1.length O) k_ ∧ zo (.slice B0 X.length x0) k_ ∧ zo (.slice C0 a0.length y0) k_ ∧ zo (.slice i5 V5.length j5) k_ ∧ zo (.slice l5 X5.length m5) k_ ∧ zo (.slice n5 a6.length o5) k_ ∧ zo (.slice p5 R5.length q5) k_) (Kd.R_keptB (A.out) hkp (fun k_ hk_ hs_ => (hk_.1) hs_)) (fun k_ hk_ => ⟨hk_.1.1, hk_.1.2.1, hk_.1.2.2.1, hk_.1.2.2.2.1, hk_.1.2.2.2.2.1, hk_.1.2.2.2.2.2.1, hk_.1.2.2.2.2.2.2.1, hk_.1.2.2.2.2.2.2.2.1, hk_.1.2.2.2.2.2.2.2.2.1, hk_.1.2.2.2.2.2.2.2.2.2.1, hk_.1.2.2.2.2.2.2.2.2.2.2.1, hk_.1.2.2.2.2.2.2.2.2.2.2.2.1, hk_.1.2.2.2.2.2.2.2.2.2.2.2.2⟩)); have t2 := zK (Kd.R_mono (ok' := fun k_ => zo (.slice T2 J1.length U2) k_ ∧ zo (.slice i0 u.length b0) k_ ∧ zo (.slice l0 x.length c0) k_ ∧ zo (.slice m0 y.length d0) k_ ∧ zo (.slice E L1.length I) k_ ∧ zo (.slice J M1.length L) k_ ∧ zo (.slice M N1.length O) k_ ∧ zo (.slice A0 U.length t0) k_ ∧ zo (.slice C0 a0.length y0) k_ ∧ zo (.slice i5 V5.length j5) k_ ∧ zo (.slice l5 X5.length m5) k_ ∧ zo (.slice n5 a6.length o5) k_ ∧ zo (.slice p5 R5.length q5) k_) (Kd.R_keptB (B.out) hkp (fun k_ hk_ hs_ => (hk_.1) hs_)) (fun k_ hk_ => ⟨hk_.1.1, hk_.1.2.1, hk_.1.2.2.1, hk_.1.2.2.2.1, hk_.1.2.2.2.2.1, hk_.1.2.2.2.2.2.1, hk_.1.2.2.2.2.2.2.1, hk_.1.2.2.2.2.2.2.2.1, hk_.1.2.2.2.2.2.2.2.2.1, hk_.1.2.2.2.2.2.2.2.2.2.1, hk_.1.2.2.2.2.2.2.2.2.2.2.1, hk_.1.2.2.2.2.2.2.2.2.2.2.2.1, hk_.1.2.2.2.2.2.2.2.2.2.2.2.2⟩)); have x2 := zK (Kd.R_mono (ok' := fun k_ => zo (.slice T2 J1.length U2) k_ ∧ zo (.slice i0 u.length b0) k_ ∧ zo (.slice l0 x.length c0) k_ ∧ zo (.slice m0 y.length d0) k_ ∧ zo (.slice E L1.length I) k_ ∧ zo (.slice J M1.length L) k_ ∧ zo (.slice M N1.length O) k_ ∧ zo (.slice A0 U.length t0) k_ ∧ zo (.slice B0 X.length x0) k_ ∧ zo (.slice i5 V5.length j5) k_ ∧ zo (.slice l5 X5.length m5) k_ ∧ zo (.slice n5 a6.length o5) k_ ∧ zo (.slice p5 R5.length q5) k_) (Kd.R_keptB (D.out) hkp (fun k_ hk_ hs_ => (hk_.1) hs_)) (fun k_ hk_ => ⟨hk_.1.1, hk_.1.2.1, hk_.1.2.2.1, hk_.1.2.2.2.1, hk_.1.2.2.2.2.1, hk_.1.2.2.2.2.2.1, hk_.1.2.2.2.2.2.2.1, hk_.1.2.2.2.2.2.2.2.1, hk_.1.2.2.2.2.2.2.2.2.1, hk_.1.2.2.2.2.2.2.2.2.2.1, hk_.1.2.2.2.2.2.2.2.2.2.2.1, hk_.1.2.2.2.2.2.2.2.2.2.2.2.1, hk_.1.2.2.2.2.2.2.2.2.2.2.2.2⟩)); have O1 := zK (blk_kept (zM a) hkp (fun hs_ => (fun e_ => (Kd.R_ne T3.out a.out (by decide)) e_) hs_)); have U1 := zK (blk_kept (zM q) hkp (fun hs_ => (fun e_ => (Kd.R_ne T3.out q.out (by decide)) e_) hs_)); have V1 := zK (blk_kept (zM n0) hkp (fun hs_ => (fun e_ => (Kd.R_ne T3.out n0.out (by decide)) e_) hs_)); have X1 := zK (blk_kept (zM T) hkp (fun hs_ => (fun e_ => (Kd.R_ne T3.out T.out (by decide)) e_) hs_)); have g2 := zK (blk_kept (zM G0) hkp (fun hs_ => (fun e_ => (Kd.R_ne T3.out G0.out (by decide)) e_) hs_)); have B2 := zK (Kd.R_mono (ok' := fun k_ => zo (.slice T2 J1.length U2) k_ ∧ zo (.slice i0 u.length b0) k_ ∧ zo (.slice l0 x.length c0) k_ ∧ zo (.slice m0 y.length d0) k_ ∧ zo (.slice E L1.length I) k_ ∧ zo (.slice J M1.length L) k_ ∧ zo (.slice M N1.length O) k_ ∧ zo (.slice A0 U.length t0) k_ ∧ zo (.slice B0 X.length x0) k_ ∧ zo (.slice C0 a0.length y0) k_ ∧ zo (.slice l5 X5.length m5) k_ ∧ zo (.slice n5 a6.length o5) k_ ∧ zo (.slice p5 R5.length q5) k_) (Kd.R_keptB (C5.out) hkp (fun k_ hk_ hs_ => (hk_.1) hs_)) (fun k_ hk_ => ⟨hk_.1.1, hk_.1.2.1, hk_.1.2.2.1, hk_.1.2.2.2.1, hk_.1.2.2.2.2.1, hk_.1.2.2.2.2.2.1, hk_.1.2.2.2.2.2.2.1, hk_.1.2.2.2.2.2.2.2.1, hk_.1.2.2.2.2.2.2.2.2.1, hk_.1.2.2.2.2.2.2.2.2.2.1, hk_.1.2.2.2.2.2.2.2.2.2.2.1, hk_.1.2.2.2.2.2.2.2.2.2.2.2.1, hk_.1.2.2.2.2.2.2.2.2.2.2.2.2⟩)); have L2 := zK (Kd.R_mono (ok' := fun k_ => zo (.slice T2 J1.length U2) k_ ∧ zo (.slice i0 u.length b0) k_ ∧ zo (.slice l0 x.length c0) k_ ∧ zo (.slice m0 y.length d0) k_ ∧ zo (.slice E L1.length I) k_ ∧ zo (.slice J M1.length L) k_ ∧ zo (.slice M N1.length O) k_ ∧ zo (.slice A0 U.length t0) k_ ∧ zo (.slice B0 X.length x0) k_ ∧ zo (.slice C0 a0.length y0) k_ ∧ zo (.slice i5 V5.length j5) k_ ∧ zo (.slice n5 a6.length o5) k_ ∧ zo (.slice p5 R5.length q5) k_) (Kd.R_keptB (D5.out) hkp (fun k_ hk_ hs_ => (hk_.1) hs_)) (fun k_ hk_ => ⟨hk_.1.1, hk_.1.2.1, hk_.1.2.2.1, hk_.1.2.2.2.1, hk_.1.2.2.2.2.1, hk_.1.2.2.2.2.2.1, hk_.1.2.2.2.2.2.2.1, hk_.1.2.2.2.2.2.2.2.1, hk_.1.2.2.2.2.2.2.2.2.1, hk_.1.2.2.2.2.2.2.2.2.2.1, hk_.1.2.2.2.2.2.2.2.2.2.2.1, hk_.1.2.2.2.2.2.2.2.2.2.2.2.1, hk_.1.2.2.2.2.2.2.2.2.2.2.2.2⟩)); have V2 := zK (Kd.R_mono (ok' := fun k_ => zo (.slice T2 J1.length U2) k_ ∧ zo (.slice i0 u.length b0) k_ ∧ zo (.slice l0 x.length c0) k_ ∧ zo (.slice m0 y.length d0) k_ ∧ zo (.slice E L1.length I) k_ ∧ zo (.slice J M1.length L) k_ ∧ zo (.slice M N1.length O) k_ ∧ zo (.slice A0 U.length t0) k_ ∧ zo (.slice B0 X.length x0) k_ ∧ zo (.slice C0 a0.length y0) k_ ∧ zo (.slice i5 V5.length j5) k_ ∧ zo (.slice l5 X5.length m5) k_ ∧ zo (.slice p5 R5.length q5) k_) (Kd.R_keptB (E5.out) hkp (fun k_ hk_ hs_ => (hk_.1) hs_)) (fun k_ hk_ => ⟨hk_.1.1, hk_.1.2.1, hk_.1.2.2.1, hk_.1.2.2.2.1, hk_.1.2.2.2.2.1, hk_.1.2.2.2.2.2.1, hk_.1.2.2.2.2.2.2.1, hk_.1.2.2.2.2.2.2.2.1, hk_.1.2.2.2.2.2.2.2.2.1, hk_.1.2.2.2.2.2.2.2.2.2.1, hk_.1.2.2.2.2.2.2.2.2.2.2.1, hk_.1.2.2.2.2.2.2.2.2.2.2.2.1, hk_.1.2.2.2.2.2.2.2.2.2.2.2.2⟩)); have b3 := zK (Kd.R_mono (ok' := fun k_ => zo (.slice T2 J1.length U2) k_ ∧ zo (.slice i0 u.length b0) k_ ∧ zo (.slice l0 x.length c0) k_ ∧ zo (.slice m0 y.length d0) k_ ∧ zo (.slice E L1.length I) k_ ∧ zo (.slice J M1.length L) k_ ∧ zo (.slice M N1.length O) k_ ∧ zo (.slice A0 U.length t0) k_ ∧ zo (.slice B0 X.length x0) k_ ∧ zo (.slice C0 a0.length y0) k_ ∧ zo (.slice i5 V5.length j5) k_ ∧ zo (.slice l5 X5.length m5) k_ ∧ zo (.slice n5 a6.length o5) k_) (Kd.R_keptB (D6.out) hkp (fun k_ hk_ hs_ => (hk_.1) hs_)) (fun k_ hk_ => ⟨hk_.1.1, hk_.1.2.1, hk_.1.2.2.1, hk_.1.2.2.2.1, hk_.1.2.2.2.2.1, hk_.1.2.2.2.2.2.1, hk_.1.2.2.2.2.2.2.1, hk_.1.2.2.2.2.2.2.2.1, hk_.1.2.2.2.2.2.2.2.2.1, hk_.1.2.2.2.2.2.2.2.2.2.1, hk_.1.2.2.2.2.2.2.2.2.2.2.1, hk_.1.2.2.2.2.2.2.2.2.2.2.2.1, hk_.1.2.2.2.2.2.2.2.2.2.2.2.2⟩)); have G3 := zK (hb); revert R1 S1 T1 a2 b2 d2 i2 m2 t2 x2 O1 U1 V1 X1 g2 B2 L2 V2 b3 G3; clear T3 o0 p0 q0 e0 f0 g0 A B D a q n0 T G0 C5 D5 E5 D6 HB; intro T3 o0 p0 q0 e0 f0 g0 A B D a q n0 T G0 C5 D5 E5 D6 HB; (try clear hkp); (try clear q9)))
     (try simp only [Act.put, zq1, zq2, zq3])
     go_cut [86] (fun v86 wc => ∃ (kq : Nat) (L8 : Bool), v86 = .bool L8 ∧ Aside0 (laws_FnExactStepOpt.j1 kq l2 i4 L8 p1 q1 t1 x1 y1 A1 B1 C1 D1 E1 S0 g1 i1 l1 m1 n1 o1 u x y c3 d3 e3 U X a0 o3 p3 q3 = some true) ∧ Aside0 (kq ≤ O5) ∧ Aside0 (Kd.R (Kd.int .i64) 3 wc w.heap.size (fun k_ => zo (.slice l0 x.length c0) k_ ∧ zo (.slice m0 y.length d0) k_ ∧ zo (.slice E L1.length I) k_ ∧ zo (.slice J M1.length L) k_ ∧ zo (.slice M N1.length O) k_ ∧ zo (.slice A0 U.length t0) k_ ∧ zo (.slice B0 X.length x0) k_ ∧ zo (.slice C0 a0.length y0) k_) (.slice i0 u.length b0) u) ∧ Aside0 (Kd.R (Kd.int .i64) 3 wc w.heap.size (fun k_ => zo (.slice i0 u.length b0) k_ ∧ zo (.slice m0 y.length d0) k_ ∧ zo (.slice E L1.length I) k_ ∧ zo (.slice J M1.length L) k_ ∧ zo (.slice M N1.length O) k_ ∧ zo (.slice A0 U.length t0) k_ ∧ zo (.slice B0 X.length x0) k_ ∧ zo (.slice C0 a0.length y0) k_) (.slice l0 x.length c0) x) ∧ Aside0 (Kd.R (Kd.int .i64) 3 wc w.heap.size (fun k_ => zo (.slice i0 u.length b0) k_ ∧ zo (.slice l0 x.length c0) k_ ∧ zo (.slice E L1.length I) k_ ∧ zo (.slice J M1.length L) k_ ∧ zo (.slice M N1.length O) k_ ∧ zo (.slice A0 U.length t0) k_ ∧ zo (.slice B0 X.length x0) k_ ∧ zo (.slice C0 a0.length y0) k_) (.slice m0 y.length d0) y) ∧ Aside0 (Kd.R (Kd.int .i64) 3 wc w.heap.size (fun k_ => zo (.slice i0 u.length b0) k_ ∧ zo (.slice l0 x.length c0) k_ ∧ zo (.slice m0 y.length d0) k_ ∧ zo (.slice J M1.length L) k_ ∧ zo (.slice M N1.length O) k_ ∧ zo (.slice A0 U.length t0) k_ ∧ zo (.slice B0 X.length x0) k_ ∧ zo (.slice C0 a0.length y0) k_) (.slice E L1.length I) D0) ∧ Aside0 (Kd.R (Kd.int .i64) 3 wc w.heap.size (fun k_ => zo (.slice i0 u.length b0) k_ ∧ zo (.slice l0 x.length c0) k_ ∧ zo (.slice m0 y.length d0) k_ ∧ zo (.slice E L1.length I) k_ ∧ zo (.slice M N1.length O) k_ ∧ zo (.slice A0 U.length t0) k_ ∧ zo (.slice B0 X.length x0) k_ ∧ zo (.slice C0 a0.length y0) k_) (.slice J M1.length L) E0) ∧ Aside0 (Kd.R (Kd.int .i64) 3 wc w.heap.size (fun k_ => zo (.slice i0 u.length b0) k_ ∧ zo (.slice l0 x.length c0) k_ ∧ zo (.slice m0 y.length d0) k_ ∧ zo (.slice E L1.length I) k_ ∧ zo (.slice J M1.length L) k_ ∧ zo (.slice A0 U.length t0) k_ ∧ zo (.slice B0 X.length x0) k_ ∧ zo (.slice C0 a0.length y0) k_) (.slice M N1.length O) F0) ∧ Aside0 (Kd.R (Kd.int .i64) 3 wc w.heap.size (fun k_ => zo (.slice i0 u.length b0) k_ ∧ zo (.slice l0 x.length c0) k_ ∧ zo (.slice m0 y.length d0) k_ ∧ zo (.slice E L1.length I) k_ ∧ zo (.slice J M1.length L) k_ ∧ zo (.slice M N1.length O) k_ ∧ zo (.slice B0 X.length x0) k_ ∧ zo (.slice C0 a0.length y0) k_) (.slice A0 U.length t0) U) ∧ Aside0 (Kd.R (Kd.int .i64) 3 wc w.heap.size (fun k_ => zo (.slice i0 u.length b0) k_ ∧ zo (.slice l0 x.length c0) k_ ∧ zo (.slice m0 y.length d0) k_ ∧ zo (.slice E L1.length I) k_ ∧ zo (.slice J M1.length L) k_ ∧ zo (.slice M N1.length O) k_ ∧ zo (.slice A0 U.length t0) k_ ∧ zo (.slice C0 a0.length y0) k_) (.slice B0 X.length x0) X) ∧ Aside0 (Kd.R (Kd.int .i64) 3 wc w.heap.size (fun k_ => zo (.slice i0 u.length b0) k_ ∧ zo (.slice l0 x.length c0) k_ ∧ zo (.slice m0 y.length d0) k_ ∧ zo (.slice E L1.length I) k_ ∧ zo (.slice J M1.length L) k_ ∧ zo (.slice M N1.length O) k_ ∧ zo (.slice A0 U.length t0) k_ ∧ zo (.slice B0 X.length x0) k_) (.slice C0 a0.length y0) a0) ∧ Aside0 (wc.heap[l]? = some (.cells #[.int .i64 p1, .int .i64 q1, .int .i64 t1, .int .i64 x1, .int .i64 y1, .int .i64 A1, .int .i64 B1, .int .i64 C1, .int .i64 D1, .int .i64 E1, .int .i64 S0] 25 (0, 0))) ∧ Aside0 (wc.heap[z]? = some (.cells #[(.slice D2 g1.length E2), (.slice F2 i1.length G2), (.slice I2 l1.length J2), .int .i64 m1, .int .i64 n1, .int .i64 o1] 28 (0, 0))) ∧ Aside0 (wc.heap[I0]? = some (.cells #[(.slice i0 u.length b0), (.slice l0 x.length c0), (.slice m0 y.length d0), .int .i64 c3, .int .i64 d3, .int .i64 e3] 30 (0, 0))) ∧ Aside0 (wc.heap[C2]? = some (.cells #[(.slice E L1.length I), (.slice J M1.length L), (.slice M N1.length O), .int .i64 N3, .int .i64 O3, .int .i64 R3] 30 (0, 0))) ∧ Aside0 (wc.heap[M0]? = some (.cells #[(.slice A0 U.length t0), (.slice B0 X.length x0), (.slice C0 a0.length y0), .int .i64 o3, .int .i64 p3, .int .i64 q3] 30 (0, 0))) ∧ Aside0 (Below w.heap.size w wc))
     case first =>
      have H := a2y.out
      clear a2y
      by_cases N8 : a4j < 0
      · rw [if_pos N8] at H
        have x8 := z1 N8
        clear N8
        (first | rw [x8] | (simp only [i64_w, i32_w]; rw [x8]) | skip)
        have H' := zK H
        clear H
        go_wp2
        go_meet
        case rel => exact ⟨_, (true), zR, H', ⟨by have := L9.out; first | omega | exact Nat.le_refl _⟩, ⟨Kd.R_mono (zlR o0.out) (fun _ hk => ⟨hk.2.1, ⟨hk.2.2.1, ⟨hk.2.2.2.1, ⟨hk.2.2.2.2.1, ⟨hk.2.2.2.2.2.1, ⟨hk.2.2.2.2.2.2.1, ⟨hk.2.2.2.2.2.2.2.1, hk.2.2.2.2.2.2.2.2.1⟩⟩⟩⟩⟩⟩⟩)⟩, ⟨Kd.R_mono (zlR p0.out) (fun _ hk => ⟨hk.2.1, ⟨hk.2.2.1, ⟨hk.2.2.2.1, ⟨hk.2.2.2.2.1, ⟨hk.2.2.2.2.2.1, ⟨hk.2.2.2.2.2.2.1, ⟨hk.2.2.2.2.2.2.2.1, hk.2.2.2.2.2.2.2.2.1⟩⟩⟩⟩⟩⟩⟩)⟩, ⟨Kd.R_mono (zlR q0.out) (fun _ hk => ⟨hk.2.1, ⟨hk.2.2.1, ⟨hk.2.2.2.1, ⟨hk.2.2.2.2.1, ⟨hk.2.2.2.2.2.1, ⟨hk.2.2.2.2.2.2.1, ⟨hk.2.2.2.2.2.2.2.1, hk.2.2.2.2.2.2.2.2.1⟩⟩⟩⟩⟩⟩⟩)⟩, ⟨Kd.R_mono (zlR e0.out) (fun _ hk => ⟨hk.2.1, ⟨hk.2.2.1, ⟨hk.2.2.2.1, ⟨hk.2.2.2.2.1, ⟨hk.2.2.2.2.2.1, ⟨hk.2.2.2.2.2.2.1, ⟨hk.2.2.2.2.2.2.2.1, hk.2.2.2.2.2.2.2.2.1⟩⟩⟩⟩⟩⟩⟩)⟩, ⟨Kd.R_mono (zlR f0.out) (fun _ hk => ⟨hk.2.1, ⟨hk.2.2.1, ⟨hk.2.2.2.1, ⟨hk.2.2.2.2.1, ⟨hk.2.2.2.2.2.1, ⟨hk.2.2.2.2.2.2.1, ⟨hk.2.2.2.2.2.2.2.1, hk.2.2.2.2.2.2.2.2.1⟩⟩⟩⟩⟩⟩⟩)⟩, ⟨Kd.R_mono (zlR g0.out) (fun _ hk => ⟨hk.2.1, ⟨hk.2.2.1, ⟨hk.2.2.2.1, ⟨hk.2.2.2.2.1, ⟨hk.2.2.2.2.2.1, ⟨hk.2.2.2.2.2.2.1, ⟨hk.2.2.2.2.2.2.2.1, hk.2.2.2.2.2.2.2.2.1⟩⟩⟩⟩⟩⟩⟩)⟩, ⟨Kd.R_mono (zlR A.out) (fun _ hk => ⟨hk.2.1, ⟨hk.2.2.1, ⟨hk.2.2.2.1, ⟨hk.2.2.2.2.1, ⟨hk.2.2.2.2.2.1, ⟨hk.2.2.2.2.2.2.1, ⟨hk.2.2.2.2.2.2.2.1, hk.2.2.2.2.2.2.2.2.1⟩⟩⟩⟩⟩⟩⟩)⟩, ⟨Kd.R_mono (zlR B.out) (fun _ hk => ⟨hk.2.1, ⟨hk.2.2.1, ⟨hk.2.2.2.1, ⟨hk.2.2.2.2.1, ⟨hk.2.2.2.2.2.1, ⟨hk.2.2.2.2.2.2.1, ⟨hk.2.2.2.2.2.2.2.1, hk.2.2.2.2.2.2.2.2.1⟩⟩⟩⟩⟩⟩⟩)⟩, ⟨Kd.R_mono (zlR D.out) (fun _ hk => ⟨hk.2.1, ⟨hk.2.2.1, ⟨hk.2.2.2.1, ⟨hk.2.2.2.2.1, ⟨hk.2.2.2.2.2.1, ⟨hk.2.2.2.2.2.2.1, ⟨hk.2.2.2.2.2.2.2.1, hk.2.2.2.2.2.2.2.2.1⟩⟩⟩⟩⟩⟩⟩)⟩, ⟨zM a⟩, ⟨zM q⟩, ⟨zM n0⟩, ⟨zM T⟩, ⟨zM G0⟩, ⟨zB⟩⟩
      rw [if_neg N8] at H
      have x8 := z2 N8
      clear N8
      (first | rw [x8] | (simp only [i64_w, i32_w]; rw [x8]) | skip)
      replace H := z6 H
      obtain ⟨M8, b0q, H⟩ := H
      have b2t := zK b0q
      clear b0q
      by_cases O9 : M8 = true
      · as_aux_lemma =>
        subst O9
        rw [if_pos rfl] at H
        have H' := zK H
        clear H
        have c0f := e4.out
        have c0g := O0.out
        have c0j := g4.out
        have c0l := f4.out
        have c0m := V3.out
        have c0n := U3.out
        have c0o := X3.out
        have c0p := G1.out
        obtain ⟨a5a, a5b, a5c, a5d, a5e, a5f, a5g, a5j, a5l, a5m, a5n, a5o⟩ := zc6 G0
        have c0q := n3.out
        have c0s := L0.out
        have c0t := m3.out
        have c0u := a1.out
        have c0x := B6.out
        have c0y := C6.out
        obtain ⟨a5p, a5q, a5s, a5t, a5u, a5x, a5y, a5z, a6a, a6b, a6c, a6d⟩ := zc6 n0
        go_wp2_with (first | (go_at_call 13; (with_reducible refine (laws_eqOpt.calls O5 _ _ U _ _ X _ _ a0 o3 p3 q3 _ _ u _ _ x _ _ y c3 d3 e3 true _ ?side1 ?side2 ?side3 ?side4 ?side5 ?side6 ?side7 ?side8 ?side9 ?side10 ?side11 ?side12 b2t.out).mono ?_); (case side1 => exact zC (Kd.R_reads' A.out).2.2); (case side2 => exact (Kd.R_reads' A.out).2.1); (case side3 => exact zC (Kd.R_reads' B.out).2.2); (case side4 => exact (Kd.R_reads' B.out).2.1); (case side5 => exact zC (Kd.R_reads' D.out).2.2); (case side6 => exact (Kd.R_reads' D.out).2.1); (case side7 => exact zC (Kd.R_reads' o0.out).2.2); (case side8 => exact (Kd.R_reads' o0.out).2.1); (case side9 => exact zC (Kd.R_reads' p0.out).2.2); (case side10 => exact (Kd.R_reads' p0.out).2.1); (case side11 => exact zC (Kd.R_reads' q0.out).2.2); (case side12 => exact (Kd.R_reads' q0.out).2.1); rintro e c7z ⟨rfl, hb⟩; have R1 := zK (Kd.R_below (zkR T3) hb); have S1 := zK (Kd.R_below (zkR o0) hb); have T1 := zK (Kd.R_below (zkR p0) hb); have a2 := zK (Kd.R_below (zkR q0) hb); have b2 := zK (Kd.R_below (zkR e0) hb); have d2 := zK (Kd.R_below (zkR f0) hb); have i2 := zK (Kd.R_below (zkR g0) hb); have m2 := zK (Kd.R_below (zkR A) hb); have t2 := zK (Kd.R_below (zkR B) hb); have x2 := zK (Kd.R_below (zkR D) hb); have O1 := zK (Kd.R_below (zkR C5) hb); have U1 := zK (Kd.R_below (zkR D5) hb); have V1 := zK (Kd.R_below (zkR E5) hb); have X1 := zK (Kd.R_below (zkR D6) hb); have g2 := z7 a hb; have B2 := z7 q hb; have L2 := z7 n0 hb; have V2 := z7 T hb; have b3 := z7 G0 hb; have G3 := z8 hb; revert R1 S1 T1 a2 b2 d2 i2 m2 t2 x2 O1 U1 V1 X1 g2 B2 L2 V2 b3 G3; clear T3 o0 p0 q0 e0 f0 g0 A B D C5 D5 E5 D6 a q n0 T G0 HB; intro T3 o0 p0 q0 e0 f0 g0 A B D C5 D5 E5 D6 a q n0 T G0 HB))
        go_meet
        case rel => exact ⟨_, ((D7 != i4)), zR, H', ⟨by have := L9.out; first | omega | exact Nat.le_refl _⟩, ⟨Kd.R_mono (zlR o0.out) (fun _ hk => ⟨hk.2.1, ⟨hk.2.2.1, ⟨hk.2.2.2.1, ⟨hk.2.2.2.2.1, ⟨hk.2.2.2.2.2.1, ⟨hk.2.2.2.2.2.2.1, ⟨hk.2.2.2.2.2.2.2.1, hk.2.2.2.2.2.2.2.2.1⟩⟩⟩⟩⟩⟩⟩)⟩, ⟨Kd.R_mono (zlR p0.out) (fun _ hk => ⟨hk.2.1, ⟨hk.2.2.1, ⟨hk.2.2.2.1, ⟨hk.2.2.2.2.1, ⟨hk.2.2.2.2.2.1, ⟨hk.2.2.2.2.2.2.1, ⟨hk.2.2.2.2.2.2.2.1, hk.2.2.2.2.2.2.2.2.1⟩⟩⟩⟩⟩⟩⟩)⟩, ⟨Kd.R_mono (zlR q0.out) (fun _ hk => ⟨hk.2.1, ⟨hk.2.2.1, ⟨hk.2.2.2.1, ⟨hk.2.2.2.2.1, ⟨hk.2.2.2.2.2.1, ⟨hk.2.2.2.2.2.2.1, ⟨hk.2.2.2.2.2.2.2.1, hk.2.2.2.2.2.2.2.2.1⟩⟩⟩⟩⟩⟩⟩)⟩, ⟨Kd.R_mono (zlR e0.out) (fun _ hk => ⟨hk.2.1, ⟨hk.2.2.1, ⟨hk.2.2.2.1, ⟨hk.2.2.2.2.1, ⟨hk.2.2.2.2.2.1, ⟨hk.2.2.2.2.2.2.1, ⟨hk.2.2.2.2.2.2.2.1, hk.2.2.2.2.2.2.2.2.1⟩⟩⟩⟩⟩⟩⟩)⟩, ⟨Kd.R_mono (zlR f0.out) (fun _ hk => ⟨hk.2.1, ⟨hk.2.2.1, ⟨hk.2.2.2.1, ⟨hk.2.2.2.2.1, ⟨hk.2.2.2.2.2.1, ⟨hk.2.2.2.2.2.2.1, ⟨hk.2.2.2.2.2.2.2.1, hk.2.2.2.2.2.2.2.2.1⟩⟩⟩⟩⟩⟩⟩)⟩, ⟨Kd.R_mono (zlR g0.out) (fun _ hk => ⟨hk.2.1, ⟨hk.2.2.1, ⟨hk.2.2.2.1, ⟨hk.2.2.2.2.1, ⟨hk.2.2.2.2.2.1, ⟨hk.2.2.2.2.2.2.1, ⟨hk.2.2.2.2.2.2.2.1, hk.2.2.2.2.2.2.2.2.1⟩⟩⟩⟩⟩⟩⟩)⟩, ⟨Kd.R_mono (zlR A.out) (fun _ hk => ⟨hk.2.1, ⟨hk.2.2.1, ⟨hk.2.2.2.1, ⟨hk.2.2.2.2.1, ⟨hk.2.2.2.2.2.1, ⟨hk.2.2.2.2.2.2.1, ⟨hk.2.2.2.2.2.2.2.1, hk.2.2.2.2.2.2.2.2.1⟩⟩⟩⟩⟩⟩⟩)⟩, ⟨Kd.R_mono (zlR B.out) (fun _ hk => ⟨hk.2.1, ⟨hk.2.2.1, ⟨hk.2.2.2.1, ⟨hk.2.2.2.2.1, ⟨hk.2.2.2.2.2.1, ⟨hk.2.2.2.2.2.2.1, ⟨hk.2.2.2.2.2.2.2.1, hk.2.2.2.2.2.2.2.2.1⟩⟩⟩⟩⟩⟩⟩)⟩, ⟨Kd.R_mono (zlR D.out) (fun _ hk => ⟨hk.2.1, ⟨hk.2.2.1, ⟨hk.2.2.2.1, ⟨hk.2.2.2.2.1, ⟨hk.2.2.2.2.2.1, ⟨hk.2.2.2.2.2.2.1, ⟨hk.2.2.2.2.2.2.2.1, hk.2.2.2.2.2.2.2.2.1⟩⟩⟩⟩⟩⟩⟩)⟩, ⟨zM a⟩, ⟨zM q⟩, ⟨zM n0⟩, ⟨zM T⟩, ⟨zM G0⟩, ⟨zB⟩⟩
      replace O9 := Bool.eq_false_iff.mpr O9
      subst O9
      rw [if_neg (show ¬ (false = true) by decide)] at H
      have H' := zK H
      clear H
      have c0z := e4.out
      have c1a := O0.out
      have c1b := g4.out
      have c1c := f4.out
      have c1d := V3.out
      have c1e := U3.out
      have c1f := X3.out
      have c1g := G1.out
      obtain ⟨a6e, a6f, a6g, a6j, a6l, a6m, a6n, a6o, a6p, a6q, a6s, a6t⟩ := zc6 G0
      have c1j := n3.out
      have c1l := L0.out
      have c1m := m3.out
      have c1n := a1.out
      have c1o := B6.out
      have c1p := C6.out
      obtain ⟨a6u, a6x, a6y, a6z, a7a, a7b, a7c, a7d, a7e, a7f, a7g, a7j⟩ := zc6 n0
      go_wp2_with (first | (go_at_call 13; (with_reducible refine (laws_eqOpt.calls O5 _ _ U _ _ X _ _ a0 o3 p3 q3 _ _ u _ _ x _ _ y c3 d3 e3 false _ ?side1 ?side2 ?side3 ?side4 ?side5 ?side6 ?side7 ?side8 ?side9 ?side10 ?side11 ?side12 b2t.out).mono ?_); (case side1 => exact zC (Kd.R_reads' A.out).2.2); (case side2 => exact (Kd.R_reads' A.out).2.1); (case side3 => exact zC (Kd.R_reads' B.out).2.2); (case side4 => exact (Kd.R_reads' B.out).2.1); (case side5 => exact zC (Kd.R_reads' D.out).2.2); (case side6 => exact (Kd.R_reads' D.out).2.1); (case side7 => exact zC (Kd.R_reads' o0.out).2.2); (case side8 => exact (Kd.R_reads' o0.out).2.1); (case side9 => exact zC (Kd.R_reads' p0.out).2.2); (case side10 => exact (Kd.R_reads' p0.out).2.1); (case side11 => exact zC (Kd.R_reads' q0.out).2.2); (case side12 => exact (Kd.R_reads' q0.out).2.1); rintro e c8a ⟨rfl, hb⟩; have R1 := zK (Kd.R_below (zkR T3) hb); have S1 := zK (Kd.R_below (zkR o0) hb); have T1 := zK (Kd.R_below (zkR p0) hb); have a2 := zK (Kd.R_below (zkR q0) hb); have b2 := zK (Kd.R_below (zkR e0) hb); have d2 := zK (Kd.R_below (zkR f0) hb); have i2 := zK (Kd.R_below (zkR g0) hb); have m2 := zK (Kd.R_below (zkR A) hb); have t2 := zK (Kd.R_below (zkR B) hb); have x2 := zK (Kd.R_below (zkR D) hb); have O1 := zK (Kd.R_below (zkR C5) hb); have U1 := zK (Kd.R_below (zkR D5) hb); have V1 := zK (Kd.R_below (zkR E5) hb); have X1 := zK (Kd.R_below (zkR D6) hb); have g2 := z7 a hb; have B2 := z7 q hb; have L2 := z7 n0 hb; have V2 := z7 T hb; have b3 := z7 G0 hb; have G3 := z8 hb; revert R1 S1 T1 a2 b2 d2 i2 m2 t2 x2 O1 U1 V1 X1 g2 B2 L2 V2 b3 G3; clear T3 o0 p0 q0 e0 f0 g0 A B D C5 D5 E5 D6 a q n0 T G0 HB; intro T3 o0 p0 q0 e0 f0 g0 A B D C5 D5 E5 D6 a q n0 T G0 HB))
      go_meet
      case rel => exact ⟨_, (true), zR, H', ⟨by have := L9.out; first | omega | exact Nat.le_refl _⟩, ⟨Kd.R_mono (zlR o0.out) (fun _ hk => ⟨hk.2.1, ⟨hk.2.2.1, ⟨hk.2.2.2.1, ⟨hk.2.2.2.2.1, ⟨hk.2.2.2.2.2.1, ⟨hk.2.2.2.2.2.2.1, ⟨hk.2.2.2.2.2.2.2.1, hk.2.2.2.2.2.2.2.2.1⟩⟩⟩⟩⟩⟩⟩)⟩, ⟨Kd.R_mono (zlR p0.out) (fun _ hk => ⟨hk.2.1, ⟨hk.2.2.1, ⟨hk.2.2.2.1, ⟨hk.2.2.2.2.1, ⟨hk.2.2.2.2.2.1, ⟨hk.2.2.2.2.2.2.1, ⟨hk.2.2.2.2.2.2.2.1, hk.2.2.2.2.2.2.2.2.1⟩⟩⟩⟩⟩⟩⟩)⟩, ⟨Kd.R_mono (zlR q0.out) (fun _ hk => ⟨hk.2.1, ⟨hk.2.2.1, ⟨hk.2.2.2.1, ⟨hk.2.2.2.2.1, ⟨hk.2.2.2.2.2.1, ⟨hk.2.2.2.2.2.2.1, ⟨hk.2.2.2.2.2.2.2.1, hk.2.2.2.2.2.2.2.2.1⟩⟩⟩⟩⟩⟩⟩)⟩, ⟨Kd.R_mono (zlR e0.out) (fun _ hk => ⟨hk.2.1, ⟨hk.2.2.1, ⟨hk.2.2.2.1, ⟨hk.2.2.2.2.1, ⟨hk.2.2.2.2.2.1, ⟨hk.2.2.2.2.2.2.1, ⟨hk.2.2.2.2.2.2.2.1, hk.2.2.2.2.2.2.2.2.1⟩⟩⟩⟩⟩⟩⟩)⟩, ⟨Kd.R_mono (zlR f0.out) (fun _ hk => ⟨hk.2.1, ⟨hk.2.2.1, ⟨hk.2.2.2.1, ⟨hk.2.2.2.2.1, ⟨hk.2.2.2.2.2.1, ⟨hk.2.2.2.2.2.2.1, ⟨hk.2.2.2.2.2.2.2.1, hk.2.2.2.2.2.2.2.2.1⟩⟩⟩⟩⟩⟩⟩)⟩, ⟨Kd.R_mono (zlR g0.out) (fun _ hk => ⟨hk.2.1, ⟨hk.2.2.1, ⟨hk.2.2.2.1, ⟨hk.2.2.2.2.1, ⟨hk.2.2.2.2.2.1, ⟨hk.2.2.2.2.2.2.1, ⟨hk.2.2.2.2.2.2.2.1, hk.2.2.2.2.2.2.2.2.1⟩⟩⟩⟩⟩⟩⟩)⟩, ⟨Kd.R_mono (zlR A.out) (fun _ hk => ⟨hk.2.1, ⟨hk.2.2.1, ⟨hk.2.2.2.1, ⟨hk.2.2.2.2.1, ⟨hk.2.2.2.2.2.1, ⟨hk.2.2.2.2.2.2.1, ⟨hk.2.2.2.2.2.2.2.1, hk.2.2.2.2.2.2.2.2.1⟩⟩⟩⟩⟩⟩⟩)⟩, ⟨Kd.R_mono (zlR B.out) (fun _ hk => ⟨hk.2.1, ⟨hk.2.2.1, ⟨hk.2.2.2.1, ⟨hk.2.2.2.2.1, ⟨hk.2.2.2.2.2.1, ⟨hk.2.2.2.2.2.2.1, ⟨hk.2.2.2.2.2.2.2.1, hk.2.2.2.2.2.2.2.2.1⟩⟩⟩⟩⟩⟩⟩)⟩, ⟨Kd.R_mono (zlR D.out) (fun _ hk => ⟨hk.2.1, ⟨hk.2.2.1, ⟨hk.2.2.2.1, ⟨hk.2.2.2.2.1, ⟨hk.2.2.2.2.2.1, ⟨hk.2.2.2.2.2.2.1, ⟨hk.2.2.2.2.2.2.2.1, hk.2.2.2.2.2.2.2.2.1⟩⟩⟩⟩⟩⟩⟩)⟩, ⟨zM a⟩, ⟨zM q⟩, ⟨zM n0⟩, ⟨zM T⟩, ⟨zM G0⟩, ⟨zB⟩⟩
     case rest => exact laws_FnExactStepOpt.rest1 k p1 q1 t1 x1 y1 A1 B1 C1 D1 E1 S0 D2 E2 g1 F2 G2 i1 I2 J2 l1 m1 n1 o1 A2 c2 l2 w a2l u x y c3 d3 e3 i4 L1 M1 N1 N3 O3 R3 J1 U X a0 o3 p3 q3 D7 l z I0 i0 b0 l0 c0 m0 d0 C2 E I J L M O T2 U2 M0 A0 t0 B0 x0 C0 y0 O5 D0 E0 F0 a4j _ _ wc u19 u20 u21 u22 u23 u24 u25 u26 u27 u28 u29 u30 u31 u32 u33 u34 u35 u36 u37 u38 u39 u40 u41 u42 u43 u44 u45 u46 u47 u48 u49 u50 u51 u52 u53 u54 u55 u56 u57 u58 u59 u60 u61 u62 u63 u64 u65 u66 u67 u68 u69 u70 u71 u72 u73 u74 u75 u76 u77 u78 u79 u80 u81 u82 u83 u84 u85 u86 u87 u88 u89 u90 u91 u92 u93 u94 u95 u96 u97 u98 u99 u100 u101 u102 u103 u104 u105 u106 u107 u108 u109 u110 u111 u112 u113 u114 u115 u116 u117 u118 u119 u120 u121 u122 u123 u124 y8 A8 B8 C8 D8 E8 U9 V9 a2n a2o T5 L0 n3 a1 m3 a2p B6 C6 X7 O0 e4 f4 g4 U3 V3 G1 X3 L9 hcut _ _ rfl rfl (by assumption) (by assumption)
 all_goals go_ret
 all_goals exact ⟨zE, zB⟩
def WT23 (x : S23) : Prop := (Lit.int .i64 x.f0).wf = true ∧ (Lit.int .i64 x.f1).wf = true ∧ (Lit.int .i64 x.f2).wf = true ∧ (Lit.int .i64 x.f3).wf = true
def WT25 (x : S25) : Prop := (Lit.int .i64 x.f0).wf = true ∧ WT23 x.f1 ∧ (Lit.int .i64 x.f2).wf = true ∧ (Lit.int .i64 x.f3).wf = true ∧ (Lit.int .i64 x.f4).wf = true ∧ (Lit.int .i64 x.f5).wf = true ∧ (Lit.int .i64 x.f6).wf = true ∧ (Lit.int .i64 x.f7).wf = true
def WT28 (x : S28) : Prop := (x.f0.length ≤ maxLen ∧ ∀ a ∈ x.f0, (Lit.int .i64 a).wf = true) ∧ (x.f1.length ≤ maxLen ∧ ∀ a ∈ x.f1, (Lit.int .i64 a).wf = true) ∧ (x.f2.length ≤ maxLen ∧ ∀ a ∈ x.f2, (Lit.int .i64 a).wf = true) ∧ (Lit.int .i64 x.f3).wf = true ∧ (Lit.int .i64 x.f4).wf = true ∧ (Lit.int .i64 x.f5).wf = true
/-- THE ONE PURE STATEMENT of laws_FnExactStepOpt: yours. -/
def laws_FnExactStepOpt.Pure : Prop := ∀ (a : S25) (l : S28) (q : List Int), WT25 a → WT28 l → (q.length ≤ maxLen ∧ ∀ u ∈ q, (Lit.int .i64 u).wf = true) → ∃ k, laws_FnExactStepOpt.f k a.f0 a.f1.f0 a.f1.f1 a.f1.f2 a.f1.f3 a.f2 a.f3 a.f4 a.f5 a.f6 a.f7 l.f0 l.f1 l.f2 l.f3 l.f4 l.f5 q = some true
theorem laws_FnExactStepOpt.walk (P : laws_FnExactStepOpt.Pure) (a : S25) (cs0 : Array Value) (l : S28) (cs1 : Array Value) (q : List Int) (J : Option Addr) (L : Nat) (w : World) (T : k25.K w a cs0.toList) (h1 : k28.K w l cs1.toList) (U : Kd.C (Kd.int .i64) w J q.length q) (M : q.length ≤ L) (w0 : WT25 a) (w1 : WT28 l) (X : (q.length ≤ maxLen ∧ ∀ O ∈ q, (Lit.int .i64 O).wf = true)) :
 Calls Try.prog 3 #[.agg cs0, .agg cs1, .slice J q.length L] w fun e w' => e = .returned (.bool true) ∧ Below w.heap.size w w' := by
 obtain ⟨k, h⟩ := P a l q w0 w1 X
 have hcs0 := k25_open T
 obtain rfl : cs0 = #[.int .i64 a.f0, .int .i64 a.f1.f0, .int .i64 a.f1.f1, .int .i64 a.f1.f2, .int .i64 a.f1.f3, .int .i64 a.f2, .int .i64 a.f3, .int .i64 a.f4, .int .i64 a.f5, .int .i64 a.f6, .int .i64 a.f7] := by cases cs0; simp_all
 obtain ⟨u, x, y, z, A, B, hcs1, D, g1_0, E, g1_1, I, g1_2⟩ := k28_open h1
 obtain rfl : cs1 = #[.slice u (l.f0).length x, .slice y (l.f1).length z, .slice A (l.f2).length B, .int .i64 l.f3, .int .i64 l.f4, .int .i64 l.f5] := by cases cs1; simp_all
 refine (laws_FnExactStepOpt.calls k a.f0 a.f1.f0 a.f1.f1 a.f1.f2 a.f1.f3 a.f2 a.f3 a.f4 a.f5 a.f6 a.f7 _ _ l.f0 _ _ l.f1 _ _ l.f2 l.f3 l.f4 l.f5 _ _ q true w g1_0 D g1_1 E g1_2 I U M h).mono ?_
 rintro e w' ⟨rfl, hd⟩
 exact ⟨rfl, hd⟩
end Go.Proofs.Ytodfhokndnmdoaa.PFnExactStepOpt
