-- Printed out of the translation by this session's own turned copy of a printer; Lean checks it.
import Derived.Test.YtodfhokndnmdoaaPFnFactorx0
import Derived.Test.YtodfhokndnmdoaaPFnFactorx5
import Derived.Test.YtodfhokndnmdoaaPFnFactorx6
import Derived.Test.YtodfhokndnmdoaaPFnFactorx7
import Derived.Test.YtodfhokndnmdoaaPFnFactorx8
import Derived.Test.YtodfhokndnmdoaaPFnFactorx9
import Derived.Test.YtodfhokndnmdoaaPFnFactorx10
namespace Go.Proofs.Ytodfhokndnmdoaa.PFnFactor
open Go.RowKit Go.Proofs.YtodfhokndnmdoaaW.PrintWords Go.Proofs.YtodfhokndnmdoaaW.PrintLast Go.Proofs.YtodfhokndnmdoaaW.PrintMore
attribute [local go_sem] max2_int min2_int max_two min_two max_three min_three max_four min_four
set_option linter.unusedVariables false
set_option linter.unusedSimpArgs false
set_option maxHeartbeats 40000000
set_option maxRecDepth 100000
def impl_StepOpt.l0 : Nat → List Int → Int → List Int → Int → Int → Int → Int → Int → Int → Int → Int → Int → Int → Int → Int → Int → List Int → List Int → List Int → Int → Int → Int → List Int → List Int → List Int → Int → Int → Int → Option (List Int × List Int × List Int × Int × Int × Int × Bool)
 | 0, _, _, _, _, _, _, _, _, _, _, _, _, _, _, _, _, _, _, _, _, _, _, _, _, _, _, _, _ => none
 | k + 1, x9, j0, b0, n0, a, I, J, L, M, O, T, U, X, x, a0, y, c0, z, A, d0, e0, f0, l, q, u, B, D, E => if a < n0 then (if 0 ≤ a then (if a < (b0.length : Int) then (if x > 0 then ((impl_Near.f (wrap64 (x * (rd b0 a))) 65536).bind fun o0 => ((impl_Near.f (wrap64 (j0 * o0)) 65536).bind fun p0 => ((impl_bring_int.f (wrap64 ((rd b0 a) - p0)) (-68719476736) 68719476736).bind fun q0 => (if a < (x9.length : Int) then (if a < (z.length : Int) then (if a < (A.length : Int) then ((impl_moverOf.f k I J L M O T U X x a0 y j0 (rd x9 a) q0 (rd z a) (rd A a)).bind fun g0 => (if a < (q.length : Int) then (if a < (u.length : Int) then ((impl_bring_int.f g0.1 (-68719476736) 68719476736).bind fun s0 => (if a < (l.length : Int) then (impl_StepOpt.l0 k x9 j0 b0 n0 (wrap64 (a + 1)) I J L M O T U X x a0 y c0 z A d0 e0 f0 (l.set (a : Int).toNat s0) (q.set (a : Int).toNat g0.2.1) (u.set (a : Int).toNat g0.2.2) B D E) else (none))) else (none)) else (none))) else (none)) else (none)) else (none))))) else (if a < (x9.length : Int) then (if a < (z.length : Int) then (if a < (A.length : Int) then ((impl_moverOf.f k I J L M O T U X x a0 y j0 (rd x9 a) (rd b0 a) (rd z a) (rd A a)).bind fun i0 => (if a < (q.length : Int) then (if a < (u.length : Int) then ((impl_bring_int.f i0.1 (-68719476736) 68719476736).bind fun t0 => (if a < (l.length : Int) then (impl_StepOpt.l0 k x9 j0 b0 n0 (wrap64 (a + 1)) I J L M O T U X x a0 y c0 z A d0 e0 f0 (l.set (a : Int).toNat t0) (q.set (a : Int).toNat i0.2.1) (u.set (a : Int).toNat i0.2.2) B D E) else (none))) else (none)) else (none))) else (none)) else (none)) else (none))) else (none)) else (none)) else (if y > 0 then (if (mn (wrap64 (E + 1)) 1000000) ≥ y then (some (l, q, u, B, mn (wrap64 (2 * D)) 65536, 0, true)) else (some (l, q, u, B, D, mn (wrap64 (E + 1)) 1000000, true))) else (some (l, q, u, B, D, mn (wrap64 (E + 1)) 1000000, true)))
def impl_StepOpt.f (k : Nat) (E : Int) (q : Int) (u : Int) (x : Int) (y : Int) (I : Int) (J : Int) (L : Int) (M : Int) (z : Int) (B : Int) (l : List Int) (O : List Int) (T : List Int) (A : Int) (D : Int) (U : Int) (l2 : List Int) : Option (List Int × List Int × List Int × Int × Int × Int × Bool) := (impl_RuleOk.f E q u x y I J L M z B).bind fun b0 => (if b0 = true then ((impl_OptOk.f k l O T A D U).bind fun c0 => (if c0 = true then (if A = 1000000 then (some (([] : List Int), ([] : List Int), ([] : List Int), 0, 0, 0, false)) else (if (l2.length : Int) = (l.length : Int) then ((impl_cloneOpt.f l O T A D U).bind fun a => ((impl_gradOk.f k l2).bind fun d0 => (if d0 = true then ((impl_mapped_int_int.f k l2 D).bind fun X => (if z > 0 then ((impl_Clip.f k X z).bind fun e0 => ((impl_Rate.f q u x y A).bind fun f0 => ((impl_StepOpt_1.f E q u x y I J L M z B).bind fun i0 => (impl_StepOpt.l0 k e0 f0 l (l.length : Int) 0 E q u x y I J L M z B l O T A D U a.1 a.2.1 a.2.2.1 (wrap64 (a.2.2.2.1 + 1)) a.2.2.2.2.1 a.2.2.2.2.2)))) else ((impl_Rate.f q u x y A).bind fun g0 => ((impl_StepOpt_1.f E q u x y I J L M z B).bind fun j0 => (impl_StepOpt.l0 k X g0 l (l.length : Int) 0 E q u x y I J L M z B l O T A D U a.1 a.2.1 a.2.2.1 (wrap64 (a.2.2.2.1 + 1)) a.2.2.2.2.1 a.2.2.2.2.2))))) else (some (a.1, a.2.1, a.2.2.1, wrap64 (a.2.2.2.1 + 1), mx 1 (wrap64 (Int.tdiv D 2)), 0, true))))) else (some (([] : List Int), ([] : List Int), ([] : List Int), 0, 0, 0, false)))) else (some (([] : List Int), ([] : List Int), ([] : List Int), 0, 0, 0, false)))) else (some (([] : List Int), ([] : List Int), ([] : List Int), 0, 0, 0, false)))
def impl_StepOpt.T19 : Bool × List (List Nat × List Nat) := (true, [([], []), ([0], [0]), ([], []), ([], []), ([3], [3]), ([], []), ([], []), ([], []), ([], []), ([], []), ([8, 9], [8, 9]), ([10], [10]), ([], []), ([], []), ([13], [13]), ([], []), ([14, 15], [14, 15]), ([16], [16]), ([], []), ([18], [18]), ([], []), ([19, 20], [19, 20]), ([21], [21]), ([6], [6]), ([23], [23]), ([6, 23, 24], [6]), ([25, 7, 11, 12, 17, 22], [7, 11, 12, 17, 22, 25]), ([26], [26]), ([27], [27]), ([27], [27]), ([27], [27]), ([28, 26, 6, 7, 8, 9, 10, 11, 12, 13, 14, 15, 16, 17, 18, 19, 20, 21, 22, 23, 24, 25, 26, 27, 28], [12, 28]), ([1, 2, 0, 1, 2, 6, 7, 8, 9, 10, 11, 12, 13, 14, 15, 16, 17, 18, 19, 20, 21, 22, 23, 24, 25, 26, 27, 28, 29, 31], [1, 2]), ([32, 29, 31, 0, 1, 2, 6, 7, 8, 9, 10, 11, 12, 13, 14, 15, 16, 17, 18, 19, 20, 21, 22, 23, 24, 25, 26, 27, 28, 29, 31], [29, 32]), ([4, 5, 0, 1, 2, 3, 4, 5, 6, 7, 8, 9, 10, 11, 12, 13, 14, 15, 16, 17, 18, 19, 20, 21, 22, 23, 24, 25, 26, 27, 28, 29, 30, 31, 32, 33], [4, 5]), ([34, 30, 33, 0, 1, 2, 3, 4, 5, 6, 7, 8, 9, 10, 11, 12, 13, 14, 15, 16, 17, 18, 19, 20, 21, 22, 23, 24, 25, 26, 27, 28, 29, 30, 31, 32, 33], [30, 34])])
def impl_StepOpt.B19 : List Nat := [0, 1, 0, 0, 8, 0, 0, 0, 0, 0, 768, 1792, 0, 0, 8192, 0, 57344, 122880, 0, 262144, 0, 1835008, 3932160, 64, 8388672, 25165888, 67108800, 134217664, 268435392, 268435392, 268435392, 536870848, 3221225415, 7516192711, 17179869183, 34359738367]
theorem impl_StepOpt.tab19 : rtab .any (opsOf Try.f12 19) = impl_StepOpt.T19 := by kernel_rfl
theorem impl_StepOpt.bits19 : waitsOk impl_StepOpt.T19.2 impl_StepOpt.B19 = true := by kernel_rfl
theorem impl_StepOpt.calls (k) (c0) (p0) (q0) (t0) (x0) (j0) (m0) (n0) (A0) (y0) (b0) (B1) (a1) (L : List Int) (t1) (b1) (g0 : List Int) (x1) (d1) (i0 : List Int) (C0) (B0) (J0) (A2) (c2) (l2 : List Int) (r1 : List Int) (r2 : List Int) (r3 : List Int) (r4) (r5) (r6) (r7 : Bool) (w) (b2y : Kd.C (Kd.int .i64) w B1 L.length L) (b2z : L.length ≤ a1) (b3a : Kd.C (Kd.int .i64) w t1 g0.length g0) (b3b : g0.length ≤ b1) (b3c : Kd.C (Kd.int .i64) w x1 i0.length i0) (b3d : i0.length ≤ d1) (hr2 : Kd.C (Kd.int .i64) w A2 l2.length l2) (hc2 : l2.length ≤ c2) (h : impl_StepOpt.f k c0 p0 q0 t0 x0 j0 m0 n0 A0 y0 b0 L g0 i0 C0 B0 J0 l2 = some (r1, r2, r3, r4, r5, r6, r7)) :
 Calls Try.prog 12 #[.agg #[.int .i64 c0, .int .i64 p0, .int .i64 q0, .int .i64 t0, .int .i64 x0, .int .i64 j0, .int .i64 m0, .int .i64 n0, .int .i64 A0, .int .i64 y0, .int .i64 b0], .agg #[.slice B1 L.length a1, .slice t1 g0.length b1, .slice x1 i0.length d1, .int .i64 C0, .int .i64 B0, .int .i64 J0], .slice A2 l2.length c2] w fun e w' => ∃ v0_ v1_ v2_ : Value, e = .returned (.tuple #[.agg #[v0_, v1_, v2_, .int .i64 r4, .int .i64 r5, .int .i64 r6], .bool r7]) ∧ Kd.R (Kd.int .i64) 3 w' w.heap.size (fun k_ => some k_ ≠ (v1_ : Value).ownBlock ∧ some k_ ≠ (v2_ : Value).ownBlock) v0_ r1 ∧ Kd.R (Kd.int .i64) 3 w' w.heap.size (fun k_ => some k_ ≠ (v0_ : Value).ownBlock ∧ some k_ ≠ (v2_ : Value).ownBlock) v1_ r2 ∧ Kd.R (Kd.int .i64) 3 w' w.heap.size (fun k_ => some k_ ≠ (v0_ : Value).ownBlock ∧ some k_ ≠ (v1_ : Value).ownBlock) v2_ r3 ∧ Below w.heap.size w w' := by
 have g5b := Try.underlying35
 have g5c := Try.underlying30
 have g5d := Try.underlying33
 have f2 := zK b2y
 have q3 := zK b2z
 clear b2y b2z
 have g2 := zK b3a
 have t3 := zK b3b
 clear b3a b3b
 have i2 := zK b3c
 have x3 := zK b3d
 clear b3c b3d
 have T7 := zK hr2
 have U7 := zK hc2
 clear hr2 hc2
 have HB := zK (Below.refl w.heap.size w)
 have H : ((impl_RuleOk.f c0 p0 q0 t0 x0 j0 m0 n0 A0 y0 b0).bind fun G8 => (if G8 = true then ((impl_OptOk.f k L g0 i0 C0 B0 J0).bind fun I8 => (if I8 = true then (if C0 = 1000000 then (some (([] : List Int), ([] : List Int), ([] : List Int), 0, 0, 0, false)) else (if (l2.length : Int) = (L.length : Int) then ((impl_cloneOpt.f L g0 i0 C0 B0 J0).bind fun I1 => ((impl_gradOk.f k l2).bind fun M6 => (if M6 = true then ((impl_mapped_int_int.f k l2 B0).bind fun A3 => (if y0 > 0 then ((impl_Clip.f k A3 y0).bind fun y6 => ((impl_Rate.f p0 q0 t0 x0 C0).bind fun J1 => ((impl_StepOpt_1.f c0 p0 q0 t0 x0 j0 m0 n0 A0 y0 b0).bind fun c6q => (impl_StepOpt.l0 k y6 J1 L (L.length : Int) 0 c0 p0 q0 t0 x0 j0 m0 n0 A0 y0 b0 L g0 i0 C0 B0 J0 I1.1 I1.2.1 I1.2.2.1 (wrap64 (I1.2.2.2.1 + 1)) I1.2.2.2.2.1 I1.2.2.2.2.2)))) else ((impl_Rate.f p0 q0 t0 x0 C0).bind fun L1 => ((impl_StepOpt_1.f c0 p0 q0 t0 x0 j0 m0 n0 A0 y0 b0).bind fun c6s => (impl_StepOpt.l0 k A3 L1 L (L.length : Int) 0 c0 p0 q0 t0 x0 j0 m0 n0 A0 y0 b0 L g0 i0 C0 B0 J0 I1.1 I1.2.1 I1.2.2.1 (wrap64 (I1.2.2.2.1 + 1)) I1.2.2.2.2.1 I1.2.2.2.2.2))))) else (some (I1.1, I1.2.1, I1.2.2.1, wrap64 (I1.2.2.2.1 + 1), mx 1 (wrap64 (Int.tdiv B0 2)), 0, true))))) else (some (([] : List Int), ([] : List Int), ([] : List Int), 0, 0, 0, false)))) else (some (([] : List Int), ([] : List Int), ([] : List Int), 0, 0, 0, false)))) else (some (([] : List Int), ([] : List Int), ([] : List Int), 0, 0, 0, false)))) = some (r1, r2, r3, r4, r5, r6, r7) := h
 clear h
 replace H := z6 H
 obtain ⟨G8, A40, H⟩ := H
 have A4 := zK A40
 clear A40
 by_cases c5 : G8 = true
 rotate_left
 · replace c5 := Bool.eq_false_iff.mpr c5
   subst c5
   rw [if_neg (show ¬ (false = true) by decide)] at H
   simp only [Option.some.injEq, Prod.mk.injEq] at H
   obtain ⟨rfl, rfl, rfl, rfl, rfl, rfl, rfl⟩ := H
   go_enter Try.func12, Try.ntmps12
   go_wp2_with (first | ((with_reducible refine gd 3 rfl ?_); (try (refine gate_guard (by rfl) ?_; dsimp only)); refine zJ 3 #[.int .i64 c0, .int .i64 p0, .int .i64 q0, .int .i64 t0, .int .i64 x0, .int .i64 j0, .int .i64 m0, .int .i64 n0, .int .i64 A0, .int .i64 y0, .int .i64 b0] 35 ?_; intro i1 hg g5e hbox hb; have O := z8 hb; have T := zK (hbox); have U := z9 hg; have X := z9 hg; revert O T U X; clear HB; intro HB y D5 b2; clear hb hbox hg) | ((with_reducible refine gd 4 rfl ?_); (try (refine gate_guard (by rfl) ?_; dsimp only)); refine zJ 4 #[.slice B1 L.length a1, .slice t1 g0.length b1, .slice x1 i0.length d1, .int .i64 C0, .int .i64 B0, .int .i64 J0] 30 ?_; intro I0 hg g5f hbox hb; have O := z7 y hb; have T := z8 hb; have U := zK (hbox); have X := z9 hg; have d0 := z9 hg; have e0 := zHH hg y; have f0 := zGG hg y; revert O T U X d0 e0 f0; clear y HB; intro y HB l E5 d2 R0 S0; clear hb hbox hg) | ((with_reducible refine gd 6 rfl ?_); (try (refine gate_guard (by rfl) ?_; dsimp only)); refine zJ 6 #[.slice none 0 0, .slice none 0 0, .slice none 0 0, .int .i64 0, .int .i64 0, .int .i64 0] 30 ?_; intro M hg g5g hbox hb; have O := z7 y hb; have T := z7 l hb; have U := z8 hb; have X := zK (hbox); have d0 := z9 hg; have e0 := z9 hg; have f0 := zHH hg y; have E0 := zGG hg y; have G0 := zHH hg l; have a2 := zGG hg l; revert O T U X d0 e0 f0 E0 G0 a2; clear y l HB; intro y l HB z F5 e2 T0 U0 V0 X0; clear hb hbox hg; have f4j := R0.out; have f4l := S0.out; have f4m := T0.out; have f4n := U0.out; obtain ⟨d0z, d1a, d1b, d1c, d1d, d1e, d1f, d1g, d1j, d1l, c9x, d1m, d1n, d1o, d1p, d1q, d1s, d1t, d1u, d1x, d1y, c9y⟩ := zc11 y) | ((with_reducible refine gc 43 rfl ?_); refine zF 15 Try.func43 #[.agg #[.int .i64 c0, .int .i64 p0, .int .i64 q0, .int .i64 t0, .int .i64 x0, .int .i64 j0, .int .i64 m0, .int .i64 n0, .int .i64 A0, .int .i64 y0, .int .i64 b0]] rfl zL ?_; (with_reducible refine (impl_RuleOk.calls c0 p0 q0 t0 x0 j0 m0 n0 A0 y0 b0 false _ A4.out).mono ?_); rintro e d1z ⟨rfl, hb⟩; refine ⟨_, rfl, ?_⟩; have O := z7 y hb; have T := z7 l hb; have U := z7 z hb; have X := z8 hb; revert O T U X; clear y l z HB; intro y l z HB; have f4o := X0.out; have f4p := V0.out; obtain ⟨d2a, d2b, d2c, d2d, d2e, d2f, d2g, d2j, d2l, d2m, d2n, d2o⟩ := zc6 z) | ((with_reducible refine gate_store (t := 30) (p := 6) rfl ?_); refine store_event (t := 30) (p := 6) (v := ?vo_w354) (w1 := ((((((d1z.setCell ⟨M, 0, none⟩ (.slice none 0 0)).setCell ⟨M, 1, none⟩ (.slice none 0 0)).setCell ⟨M, 2, none⟩ (.slice none 0 0)).setCell ⟨M, 3, none⟩ (.int .i64 0)).setCell ⟨M, 4, none⟩ (.int .i64 0)).setCell ⟨M, 5, none⟩ (.int .i64 0))) ?hg ?ho ?hn ?hr ?_; (case ho => rfl); (case hg => rfl); (case hn => rfl); (case hr => first | (go_simp; done) | (go_simp; rfl)); intro p7 hw; have O : Aside0 (p7.heap[i1]? = some (.cells #[.int .i64 c0, .int .i64 p0, .int .i64 q0, .int .i64 t0, .int .i64 x0, .int .i64 j0, .int .i64 m0, .int .i64 n0, .int .i64 A0, .int .i64 y0, .int .i64 b0] 35 (0, 0))) := ⟨(by rw [hw]; exact (zV y))⟩; have T : Aside0 (p7.heap[I0]? = some (.cells #[.slice B1 L.length a1, .slice t1 g0.length b1, .slice x1 i0.length d1, .int .i64 C0, .int .i64 B0, .int .i64 J0] 30 (0, 0))) := ⟨(by rw [hw]; exact (zV l))⟩; have U : Aside0 (p7.heap[M]? = some (.cells #[.slice none 0 0, .slice none 0 0, .slice none 0 0, .int .i64 0, .int .i64 0, .int .i64 0] 30 (0, 0))) := ⟨(by rw [hw]; exact (zW z))⟩; have X : Aside0 (Below w.heap.size w p7) := ⟨(by rw [hw]; exact zB)⟩; revert O T U X; clear hw y l z HB; intro y l z HB))
   refine bodyPost_ret (results_ct rfl _ _ M 30 #[.slice none 0 0, .slice none 0 0, .slice none 0 0, .int .i64 0, .int .i64 0, .int .i64 0] (0, 0) _ rfl (zM z) Try.underlying30 rfl (by kernel_rfl)) rfl ?_
   exact ⟨_, _, _, zE, by first | exact Kd.R_nil _ _ _ _ _ | exact Kd.N_nil _ _ _ _ _ | exact Kd.V_nil _ _ _ _ _ | exact Kd.Q_nil _ _ _ _ _ | exact Kd.S_nil _ _ _ _ _, by first | exact Kd.R_nil _ _ _ _ _ | exact Kd.N_nil _ _ _ _ _ | exact Kd.V_nil _ _ _ _ _ | exact Kd.Q_nil _ _ _ _ _ | exact Kd.S_nil _ _ _ _ _, by first | exact Kd.R_nil _ _ _ _ _ | exact Kd.N_nil _ _ _ _ _ | exact Kd.V_nil _ _ _ _ _ | exact Kd.Q_nil _ _ _ _ _ | exact Kd.S_nil _ _ _ _ _, zB⟩
 subst c5
 rw [if_pos rfl] at H
 replace H := z6 H
 obtain ⟨I8, A60, H⟩ := H
 have A6 := zK A60
 clear A60
 by_cases c7 : I8 = true
 rotate_left
 · replace c7 := Bool.eq_false_iff.mpr c7
   subst c7
   rw [if_neg (show ¬ (false = true) by decide)] at H
   simp only [Option.some.injEq, Prod.mk.injEq] at H
   obtain ⟨rfl, rfl, rfl, rfl, rfl, rfl, rfl⟩ := H
   go_enter Try.func12, Try.ntmps12
   go_wp2_with (first | ((with_reducible refine gd 3 rfl ?_); (try (refine gate_guard (by rfl) ?_; dsimp only)); refine zJ 3 #[.int .i64 c0, .int .i64 p0, .int .i64 q0, .int .i64 t0, .int .i64 x0, .int .i64 j0, .int .i64 m0, .int .i64 n0, .int .i64 A0, .int .i64 y0, .int .i64 b0] 35 ?_; intro i1 hg g5j hbox hb; have O := z8 hb; have T := zK (hbox); have U := z9 hg; have X := z9 hg; revert O T U X; clear HB; intro HB y D5 b2; clear hb hbox hg) | ((with_reducible refine gd 4 rfl ?_); (try (refine gate_guard (by rfl) ?_; dsimp only)); refine zJ 4 #[.slice B1 L.length a1, .slice t1 g0.length b1, .slice x1 i0.length d1, .int .i64 C0, .int .i64 B0, .int .i64 J0] 30 ?_; intro I0 hg g5l hbox hb; have O := z7 y hb; have T := z8 hb; have U := zK (hbox); have X := z9 hg; have d0 := z9 hg; have e0 := zHH hg y; have f0 := zGG hg y; revert O T U X d0 e0 f0; clear y HB; intro y HB l E5 d2 R0 S0; clear hb hbox hg) | ((with_reducible refine gd 6 rfl ?_); (try (refine gate_guard (by rfl) ?_; dsimp only)); refine zJ 6 #[.slice none 0 0, .slice none 0 0, .slice none 0 0, .int .i64 0, .int .i64 0, .int .i64 0] 30 ?_; intro M hg g5m hbox hb; have O := z7 y hb; have T := z7 l hb; have U := z8 hb; have X := zK (hbox); have d0 := z9 hg; have e0 := z9 hg; have f0 := zHH hg y; have E0 := zGG hg y; have G0 := zHH hg l; have a2 := zGG hg l; revert O T U X d0 e0 f0 E0 G0 a2; clear y l HB; intro y l HB z F5 e2 T0 U0 V0 X0; clear hb hbox hg; have f4q := R0.out; have f4s := S0.out; have f4t := T0.out; have f4u := U0.out; obtain ⟨d2p, d2q, d2s, d2t, d2u, d2x, d2y, d2z, d3a, d3b, d0a, d3c, d3d, d3e, d3f, d3g, d3j, d3l, d3m, d3n, d3o, d0b⟩ := zc11 y) | ((with_reducible refine gc 43 rfl ?_); refine zF 15 Try.func43 #[.agg #[.int .i64 c0, .int .i64 p0, .int .i64 q0, .int .i64 t0, .int .i64 x0, .int .i64 j0, .int .i64 m0, .int .i64 n0, .int .i64 A0, .int .i64 y0, .int .i64 b0]] rfl zL ?_; (with_reducible refine (impl_RuleOk.calls c0 p0 q0 t0 x0 j0 m0 n0 A0 y0 b0 true _ A4.out).mono ?_); rintro e g5n ⟨rfl, hb⟩; refine ⟨_, rfl, ?_⟩; have O := z7 y hb; have T := z7 l hb; have U := z7 z hb; have X := z8 hb; revert O T U X; clear y l z HB; intro y l z HB; have f4x := V0.out; have f4y := X0.out; obtain ⟨d3p, d3q, d3s, d3t, d3u, d3x, d3y, d3z, d4a, d4b, d4c, d4d⟩ := zc6 l) | (go_at_call 26; (with_reducible refine (impl_OptOk.calls k _ _ L _ _ g0 _ _ i0 C0 B0 J0 false _ ?side1 ?side2 ?side3 ?side4 ?side5 ?side6 A6.out).mono ?_); (case side1 => exact zS f2); (case side2 => exact q3.out); (case side3 => exact zS g2); (case side4 => exact t3.out); (case side5 => exact zS i2); (case side6 => exact x3.out); rintro e d4e ⟨rfl, hb⟩; have O := z7 y hb; have T := z7 l hb; have U := z7 z hb; have X := z8 hb; revert O T U X; clear y l z HB; intro y l z HB; obtain ⟨d4f, d4g, d4j, d4l, d4m, d4n, d4o, d4p, d4q, d4s, d4t, d4u⟩ := zc6 z) | ((with_reducible refine gate_store (t := 30) (p := 6) rfl ?_); refine store_event (t := 30) (p := 6) (v := ?vo_w344) (w1 := ((((((d4e.setCell ⟨M, 0, none⟩ (.slice none 0 0)).setCell ⟨M, 1, none⟩ (.slice none 0 0)).setCell ⟨M, 2, none⟩ (.slice none 0 0)).setCell ⟨M, 3, none⟩ (.int .i64 0)).setCell ⟨M, 4, none⟩ (.int .i64 0)).setCell ⟨M, 5, none⟩ (.int .i64 0))) ?hg ?ho ?hn ?hr ?_; (case ho => rfl); (case hg => rfl); (case hn => rfl); (case hr => first | (go_simp; done) | (go_simp; rfl)); intro q7 hw; have O : Aside0 (q7.heap[i1]? = some (.cells #[.int .i64 c0, .int .i64 p0, .int .i64 q0, .int .i64 t0, .int .i64 x0, .int .i64 j0, .int .i64 m0, .int .i64 n0, .int .i64 A0, .int .i64 y0, .int .i64 b0] 35 (0, 0))) := ⟨(by rw [hw]; exact (zV y))⟩; have T : Aside0 (q7.heap[I0]? = some (.cells #[.slice B1 L.length a1, .slice t1 g0.length b1, .slice x1 i0.length d1, .int .i64 C0, .int .i64 B0, .int .i64 J0] 30 (0, 0))) := ⟨(by rw [hw]; exact (zV l))⟩; have U : Aside0 (q7.heap[M]? = some (.cells #[.slice none 0 0, .slice none 0 0, .slice none 0 0, .int .i64 0, .int .i64 0, .int .i64 0] 30 (0, 0))) := ⟨(by rw [hw]; exact (zW z))⟩; have X : Aside0 (Below w.heap.size w q7) := ⟨(by rw [hw]; exact zB)⟩; revert O T U X; clear hw y l z HB; intro y l z HB))
   refine bodyPost_ret (results_ct rfl _ _ M 30 #[.slice none 0 0, .slice none 0 0, .slice none 0 0, .int .i64 0, .int .i64 0, .int .i64 0] (0, 0) _ rfl (zM z) Try.underlying30 rfl (by kernel_rfl)) rfl ?_
   exact ⟨_, _, _, zE, by first | exact Kd.R_nil _ _ _ _ _ | exact Kd.N_nil _ _ _ _ _ | exact Kd.V_nil _ _ _ _ _ | exact Kd.Q_nil _ _ _ _ _ | exact Kd.S_nil _ _ _ _ _, by first | exact Kd.R_nil _ _ _ _ _ | exact Kd.N_nil _ _ _ _ _ | exact Kd.V_nil _ _ _ _ _ | exact Kd.Q_nil _ _ _ _ _ | exact Kd.S_nil _ _ _ _ _, by first | exact Kd.R_nil _ _ _ _ _ | exact Kd.N_nil _ _ _ _ _ | exact Kd.V_nil _ _ _ _ _ | exact Kd.Q_nil _ _ _ _ _ | exact Kd.S_nil _ _ _ _ _, zB⟩
 subst c7
 rw [if_pos rfl] at H
 by_cases c8 : C0 = 1000000
 · rw [if_pos c8] at H
   have c6u := beq_iff_eq.mpr c8
   have c6x := bne_eq_false_iff_eq.mpr c8
   clear c8
   simp only [Option.some.injEq, Prod.mk.injEq] at H
   obtain ⟨rfl, rfl, rfl, rfl, rfl, rfl, rfl⟩ := H
   go_enter Try.func12, Try.ntmps12
   go_wp2_with (first | ((with_reducible refine gd 3 rfl ?_); (try (refine gate_guard (by rfl) ?_; dsimp only)); refine zJ 3 #[.int .i64 c0, .int .i64 p0, .int .i64 q0, .int .i64 t0, .int .i64 x0, .int .i64 j0, .int .i64 m0, .int .i64 n0, .int .i64 A0, .int .i64 y0, .int .i64 b0] 35 ?_; intro i1 hg w9 hbox hb; have O := z8 hb; have T := zK (hbox); have U := z9 hg; have X := z9 hg; revert O T U X; clear HB; intro HB y D5 b2; clear hb hbox hg) | ((with_reducible refine gd 4 rfl ?_); (try (refine gate_guard (by rfl) ?_; dsimp only)); refine zJ 4 #[.slice B1 L.length a1, .slice t1 g0.length b1, .slice x1 i0.length d1, .int .i64 C0, .int .i64 B0, .int .i64 J0] 30 ?_; intro I0 hg w10 hbox hb; have O := z7 y hb; have T := z8 hb; have U := zK (hbox); have X := z9 hg; have d0 := z9 hg; have e0 := zHH hg y; have f0 := zGG hg y; revert O T U X d0 e0 f0; clear y HB; intro y HB l E5 d2 R0 S0; clear hb hbox hg) | ((with_reducible refine gd 6 rfl ?_); (try (refine gate_guard (by rfl) ?_; dsimp only)); refine zJ 6 #[.slice none 0 0, .slice none 0 0, .slice none 0 0, .int .i64 0, .int .i64 0, .int .i64 0] 30 ?_; intro M hg w11 hbox hb; have O := z7 y hb; have T := z7 l hb; have U := z8 hb; have X := zK (hbox); have d0 := z9 hg; have e0 := z9 hg; have f0 := zHH hg y; have E0 := zGG hg y; have G0 := zHH hg l; have a2 := zGG hg l; revert O T U X d0 e0 f0 E0 G0 a2; clear y l HB; intro y l HB z F5 e2 T0 U0 V0 X0; clear hb hbox hg; have g3a := R0.out; have g3b := S0.out; have g3c := T0.out; have g3d := U0.out; obtain ⟨b5n, b5o, b5p, b5q, b5s, b5t, b5u, b5x, b5y, b5z, L8, b6a, b6b, b6c, b6d, b6e, b6f, b6g, b6j, b6l, b6m, M8⟩ := zc11 y) | ((with_reducible refine gc 43 rfl ?_); refine zF 15 Try.func43 #[.agg #[.int .i64 c0, .int .i64 p0, .int .i64 q0, .int .i64 t0, .int .i64 x0, .int .i64 j0, .int .i64 m0, .int .i64 n0, .int .i64 A0, .int .i64 y0, .int .i64 b0]] rfl zL ?_; (with_reducible refine (impl_RuleOk.calls c0 p0 q0 t0 x0 j0 m0 n0 A0 y0 b0 true _ A4.out).mono ?_); rintro e w15 ⟨rfl, hb⟩; refine ⟨_, rfl, ?_⟩; have O := z7 y hb; have T := z7 l hb; have U := z7 z hb; have X := z8 hb; revert O T U X; clear y l z HB; intro y l z HB; have g3e := V0.out; have g3f := X0.out; obtain ⟨b6n, b6o, b6p, b6q, b6s, b6t, b6u, b6x, b6y, b6z, b7a, b7b⟩ := zc6 l) | (go_at_call 26; (with_reducible refine (impl_OptOk.calls k _ _ L _ _ g0 _ _ i0 C0 B0 J0 true _ ?side1 ?side2 ?side3 ?side4 ?side5 ?side6 A6.out).mono ?_); (case side1 => exact zS f2); (case side2 => exact q3.out); (case side3 => exact zS g2); (case side4 => exact t3.out); (case side5 => exact zS i2); (case side6 => exact x3.out); rintro e w18 ⟨rfl, hb⟩; have O := z7 y hb; have T := z7 l hb; have U := z7 z hb; have X := z8 hb; revert O T U X; clear y l z HB; intro y l z HB; obtain ⟨b7c, b7d, b7e, b7f, b7g, b7j, b7l, b7m, b7n, b7o, b7p, b7q⟩ := zc6 l; obtain ⟨b7s, b7t, b7u, b7x, b7y, b7z, b8a, b8b, b8c, b8d, b8e, b8f⟩ := zc6 z) | ((with_reducible refine gate_store (t := 30) (p := 6) rfl ?_); refine store_event (t := 30) (p := 6) (v := ?vo_w21) (w1 := ((((((w18.setCell ⟨M, 0, none⟩ (.slice none 0 0)).setCell ⟨M, 1, none⟩ (.slice none 0 0)).setCell ⟨M, 2, none⟩ (.slice none 0 0)).setCell ⟨M, 3, none⟩ (.int .i64 0)).setCell ⟨M, 4, none⟩ (.int .i64 0)).setCell ⟨M, 5, none⟩ (.int .i64 0))) ?hg ?ho ?hn ?hr ?_; (case ho => rfl); (case hg => rfl); (case hn => rfl); (case hr => first | (go_simp; done) | (go_simp; rfl)); intro w21 hw; have O : Aside0 (w21.heap[i1]? = some (.cells #[.int .i64 c0, .int .i64 p0, .int .i64 q0, .int .i64 t0, .int .i64 x0, .int .i64 j0, .int .i64 m0, .int .i64 n0, .int .i64 A0, .int .i64 y0, .int .i64 b0] 35 (0, 0))) := ⟨(by rw [hw]; exact (zV y))⟩; have T : Aside0 (w21.heap[I0]? = some (.cells #[.slice B1 L.length a1, .slice t1 g0.length b1, .slice x1 i0.length d1, .int .i64 C0, .int .i64 B0, .int .i64 J0] 30 (0, 0))) := ⟨(by rw [hw]; exact (zV l))⟩; have U : Aside0 (w21.heap[M]? = some (.cells #[.slice none 0 0, .slice none 0 0, .slice none 0 0, .int .i64 0, .int .i64 0, .int .i64 0] 30 (0, 0))) := ⟨(by rw [hw]; exact (zW z))⟩; have X : Aside0 (Below w.heap.size w w21) := ⟨(by rw [hw]; exact zB)⟩; revert O T U X; clear hw y l z HB; intro y l z HB))
   refine bodyPost_ret (results_ct rfl _ _ M 30 #[.slice none 0 0, .slice none 0 0, .slice none 0 0, .int .i64 0, .int .i64 0, .int .i64 0] (0, 0) _ rfl (zM z) Try.underlying30 rfl (by kernel_rfl)) rfl ?_
   exact ⟨_, _, _, zE, by first | exact Kd.R_nil _ _ _ _ _ | exact Kd.N_nil _ _ _ _ _ | exact Kd.V_nil _ _ _ _ _ | exact Kd.Q_nil _ _ _ _ _ | exact Kd.S_nil _ _ _ _ _, by first | exact Kd.R_nil _ _ _ _ _ | exact Kd.N_nil _ _ _ _ _ | exact Kd.V_nil _ _ _ _ _ | exact Kd.Q_nil _ _ _ _ _ | exact Kd.S_nil _ _ _ _ _, by first | exact Kd.R_nil _ _ _ _ _ | exact Kd.N_nil _ _ _ _ _ | exact Kd.V_nil _ _ _ _ _ | exact Kd.Q_nil _ _ _ _ _ | exact Kd.S_nil _ _ _ _ _, zB⟩
 rw [if_neg c8] at H
 have c6u := beq_eq_false_iff_ne.mpr c8
 have c6x := bne_iff_ne.mpr c8
 by_cases A5 : (l2.length : Int) = (L.length : Int)
 rotate_left
 · rw [if_neg A5] at H
   have b3f := beq_eq_false_iff_ne.mpr A5
   have b3g := bne_iff_ne.mpr A5
   have b3j : (l2.length == L.length) = false := by first | simpa using A5 | (simp at A5 ⊢; omega)
   simp only [Option.some.injEq, Prod.mk.injEq] at H
   obtain ⟨rfl, rfl, rfl, rfl, rfl, rfl, rfl⟩ := H
   go_enter Try.func12, Try.ntmps12
   go_wp2_with (first | ((with_reducible refine gd 3 rfl ?_); (try (refine gate_guard (by rfl) ?_; dsimp only)); refine zJ 3 #[.int .i64 c0, .int .i64 p0, .int .i64 q0, .int .i64 t0, .int .i64 x0, .int .i64 j0, .int .i64 m0, .int .i64 n0, .int .i64 A0, .int .i64 y0, .int .i64 b0] 35 ?_; intro i1 hg g5o hbox hb; have O := z8 hb; have T := zK (hbox); have U := z9 hg; have X := z9 hg; revert O T U X; clear HB; intro HB y D5 b2; clear hb hbox hg) | ((with_reducible refine gd 4 rfl ?_); (try (refine gate_guard (by rfl) ?_; dsimp only)); refine zJ 4 #[.slice B1 L.length a1, .slice t1 g0.length b1, .slice x1 i0.length d1, .int .i64 C0, .int .i64 B0, .int .i64 J0] 30 ?_; intro I0 hg g5p hbox hb; have O := z7 y hb; have T := z8 hb; have U := zK (hbox); have X := z9 hg; have d0 := z9 hg; have e0 := zHH hg y; have f0 := zGG hg y; revert O T U X d0 e0 f0; clear y HB; intro y HB l E5 d2 R0 S0; clear hb hbox hg) | ((with_reducible refine gd 6 rfl ?_); (try (refine gate_guard (by rfl) ?_; dsimp only)); refine zJ 6 #[.slice none 0 0, .slice none 0 0, .slice none 0 0, .int .i64 0, .int .i64 0, .int .i64 0] 30 ?_; intro M hg g5q hbox hb; have O := z7 y hb; have T := z7 l hb; have U := z8 hb; have X := zK (hbox); have d0 := z9 hg; have e0 := z9 hg; have f0 := zHH hg y; have E0 := zGG hg y; have G0 := zHH hg l; have a2 := zGG hg l; revert O T U X d0 e0 f0 E0 G0 a2; clear y l HB; intro y l HB z F5 e2 T0 U0 V0 X0; clear hb hbox hg; have f5a := R0.out; have f5b := S0.out; have f5c := T0.out; have f5d := U0.out; obtain ⟨d4x, d4y, d4z, d5a, d5b, d5c, d5d, d5e, d5f, d5g, d0c, d5j, d5l, d5m, d5n, d5o, d5p, d5q, d5s, d5t, d5u, d0d⟩ := zc11 y) | ((with_reducible refine gc 43 rfl ?_); refine zF 15 Try.func43 #[.agg #[.int .i64 c0, .int .i64 p0, .int .i64 q0, .int .i64 t0, .int .i64 x0, .int .i64 j0, .int .i64 m0, .int .i64 n0, .int .i64 A0, .int .i64 y0, .int .i64 b0]] rfl zL ?_; (with_reducible refine (impl_RuleOk.calls c0 p0 q0 t0 x0 j0 m0 n0 A0 y0 b0 true _ A4.out).mono ?_); rintro e g5s ⟨rfl, hb⟩; refine ⟨_, rfl, ?_⟩; have O := z7 y hb; have T := z7 l hb; have U := z7 z hb; have X := z8 hb; revert O T U X; clear y l z HB; intro y l z HB; have f5e := V0.out; have f5f := X0.out; obtain ⟨d5x, d5y, d5z, d6a, d6b, d6c, d6d, d6e, d6f, d6g, d6j, d6l⟩ := zc6 l) | (go_at_call 26; (with_reducible refine (impl_OptOk.calls k _ _ L _ _ g0 _ _ i0 C0 B0 J0 true _ ?side1 ?side2 ?side3 ?side4 ?side5 ?side6 A6.out).mono ?_); (case side1 => exact zS f2); (case side2 => exact q3.out); (case side3 => exact zS g2); (case side4 => exact t3.out); (case side5 => exact zS i2); (case side6 => exact x3.out); rintro e d6m ⟨rfl, hb⟩; have O := z7 y hb; have T := z7 l hb; have U := z7 z hb; have X := z8 hb; revert O T U X; clear y l z HB; intro y l z HB; obtain ⟨d6n, d6o, d6p, d6q, d6s, d6t, d6u, d6x, d6y, d6z, d7a, d7b⟩ := zc6 l; obtain ⟨d7c, d7d, d7e, d7f, d7g, d7j, d7l, d7m, d7n, d7o, d7p, d7q⟩ := zc6 z) | ((with_reducible refine gate_store (t := 30) (p := 6) rfl ?_); refine store_event (t := 30) (p := 6) (v := ?vo_w332) (w1 := ((((((d6m.setCell ⟨M, 0, none⟩ (.slice none 0 0)).setCell ⟨M, 1, none⟩ (.slice none 0 0)).setCell ⟨M, 2, none⟩ (.slice none 0 0)).setCell ⟨M, 3, none⟩ (.int .i64 0)).setCell ⟨M, 4, none⟩ (.int .i64 0)).setCell ⟨M, 5, none⟩ (.int .i64 0))) ?hg ?ho ?hn ?hr ?_; (case ho => rfl); (case hg => rfl); (case hn => rfl); (case hr => first | (go_simp; done) | (go_simp; rfl)); intro t7 hw; have O : Aside0 (t7.heap[i1]? = some (.cells #[.int .i64 c0, .int .i64 p0, .int .i64 q0, .int .i64 t0, .int .i64 x0, .int .i64 j0, .int .i64 m0, .int .i64 n0, .int .i64 A0, .int .i64 y0, .int .i64 b0] 35 (0, 0))) := ⟨(by rw [hw]; exact (zV y))⟩; have T : Aside0 (t7.heap[I0]? = some (.cells #[.slice B1 L.length a1, .slice t1 g0.length b1, .slice x1 i0.length d1, .int .i64 C0, .int .i64 B0, .int .i64 J0] 30 (0, 0))) := ⟨(by rw [hw]; exact (zV l))⟩; have U : Aside0 (t7.heap[M]? = some (.cells #[.slice none 0 0, .slice none 0 0, .slice none 0 0, .int .i64 0, .int .i64 0, .int .i64 0] 30 (0, 0))) := ⟨(by rw [hw]; exact (zW z))⟩; have X : Aside0 (Below w.heap.size w t7) := ⟨(by rw [hw]; exact zB)⟩; revert O T U X; clear hw y l z HB; intro y l z HB))
   refine bodyPost_ret (results_ct rfl _ _ M 30 #[.slice none 0 0, .slice none 0 0, .slice none 0 0, .int .i64 0, .int .i64 0, .int .i64 0] (0, 0) _ rfl (zM z) Try.underlying30 rfl (by kernel_rfl)) rfl ?_
   exact ⟨_, _, _, zE, by first | exact Kd.R_nil _ _ _ _ _ | exact Kd.N_nil _ _ _ _ _ | exact Kd.V_nil _ _ _ _ _ | exact Kd.Q_nil _ _ _ _ _ | exact Kd.S_nil _ _ _ _ _, by first | exact Kd.R_nil _ _ _ _ _ | exact Kd.N_nil _ _ _ _ _ | exact Kd.V_nil _ _ _ _ _ | exact Kd.Q_nil _ _ _ _ _ | exact Kd.S_nil _ _ _ _ _, by first | exact Kd.R_nil _ _ _ _ _ | exact Kd.N_nil _ _ _ _ _ | exact Kd.V_nil _ _ _ _ _ | exact Kd.Q_nil _ _ _ _ _ | exact Kd.S_nil _ _ _ _ _, zB⟩
 rw [if_pos A5] at H
 have b3f := beq_iff_eq.mpr A5
 have b3g := bne_eq_false_iff_eq.mpr A5
 have b3j : (l2.length == L.length) = true := by first | simpa using A5 | (simp at A5 ⊢; omega)
 clear A5
 replace H := z6 H
 obtain ⟨⟨e1, f1, g1, o0, D0, O0⟩, x7, H⟩ := H
 replace H : ((impl_gradOk.f k l2).bind fun M6 => (if M6 = true then ((impl_mapped_int_int.f k l2 B0).bind fun A3 => (if y0 > 0 then ((impl_Clip.f k A3 y0).bind fun y6 => ((impl_Rate.f p0 q0 t0 x0 C0).bind fun J1 => ((impl_StepOpt_1.f c0 p0 q0 t0 x0 j0 m0 n0 A0 y0 b0).bind fun c6q => (impl_StepOpt.l0 k y6 J1 L (L.length : Int) 0 c0 p0 q0 t0 x0 j0 m0 n0 A0 y0 b0 L g0 i0 C0 B0 J0 e1 f1 g1 (wrap64 (o0 + 1)) D0 O0)))) else ((impl_Rate.f p0 q0 t0 x0 C0).bind fun L1 => ((impl_StepOpt_1.f c0 p0 q0 t0 x0 j0 m0 n0 A0 y0 b0).bind fun c6s => (impl_StepOpt.l0 k A3 L1 L (L.length : Int) 0 c0 p0 q0 t0 x0 j0 m0 n0 A0 y0 b0 L g0 i0 C0 B0 J0 e1 f1 g1 (wrap64 (o0 + 1)) D0 O0))))) else (some (e1, f1, g1, wrap64 (o0 + 1), mx 1 (wrap64 (Int.tdiv B0 2)), 0, true)))) = some (r1, r2, r3, r4, r5, r6, r7) := H
 have A23 := zK x7
 clear x7
 replace H := z6 H
 obtain ⟨M6, c6y, H⟩ := H
 have A24 := zK c6y
 clear c6y
 by_cases a8 : M6 = true
 rotate_left
 · replace a8 := Bool.eq_false_iff.mpr a8
   subst a8
   rw [if_neg (show ¬ (false = true) by decide)] at H
   obtain ⟨ji294, hji294⟩ : ∃ j_ : Int, (mx 1 (wrap64 (Int.tdiv B0 2))) = j_ := ⟨_, rfl⟩
   replace H : (some (e1, f1, g1, wrap64 (o0 + 1), ji294, 0, true)) = some (r1, r2, r3, r4, r5, r6, r7) := by first | (rw [hji294] at H; exact H) | (simp only [hji294] at H ⊢; exact H)
   (try rw [hji294] at A4)
   (try rw [hji294] at A6)
   (try rw [hji294] at A23)
   (try rw [hji294] at A24)
   (try (have hji294l : 1 ≤ ji294 := by (rw [← hji294]; unfold mx; (repeat' split) <;> omega)))
   (try (have hji294m : 0 ≤ ji294 := by omega))
   have hji294_ : (if 1 < (wrap64 (Int.tdiv B0 2)) then (wrap64 (Int.tdiv B0 2)) else 1) = ji294 := hji294
   simp only [Option.some.injEq, Prod.mk.injEq] at H
   obtain ⟨rfl, rfl, rfl, rfl, rfl, rfl, rfl⟩ := H
   go_enter Try.func12, Try.ntmps12
   go_wp2_with (first | ((with_reducible refine gd 3 rfl ?_); (try (refine gate_guard (by rfl) ?_; dsimp only)); refine zJ 3 #[.int .i64 c0, .int .i64 p0, .int .i64 q0, .int .i64 t0, .int .i64 x0, .int .i64 j0, .int .i64 m0, .int .i64 n0, .int .i64 A0, .int .i64 y0, .int .i64 b0] 35 ?_; intro i1 hg g5t hbox hb; have O := z8 hb; have T := zK (hbox); have U := z9 hg; have X := z9 hg; revert O T U X; clear HB; intro HB y D5 b2; clear hb hbox hg) | ((with_reducible refine gd 4 rfl ?_); (try (refine gate_guard (by rfl) ?_; dsimp only)); refine zJ 4 #[.slice B1 L.length a1, .slice t1 g0.length b1, .slice x1 i0.length d1, .int .i64 C0, .int .i64 B0, .int .i64 J0] 30 ?_; intro I0 hg g5u hbox hb; have O := z7 y hb; have T := z8 hb; have U := zK (hbox); have X := z9 hg; have d0 := z9 hg; have e0 := zHH hg y; have f0 := zGG hg y; revert O T U X d0 e0 f0; clear y HB; intro y HB l E5 d2 R0 S0; clear hb hbox hg) | ((with_reducible refine gd 6 rfl ?_); (try (refine gate_guard (by rfl) ?_; dsimp only)); refine zJ 6 #[.slice none 0 0, .slice none 0 0, .slice none 0 0, .int .i64 0, .int .i64 0, .int .i64 0] 30 ?_; intro M hg g5x hbox hb; have O := z7 y hb; have T := z7 l hb; have U := z8 hb; have X := zK (hbox); have d0 := z9 hg; have e0 := z9 hg; have f0 := zHH hg y; have E0 := zGG hg y; have G0 := zHH hg l; have a2 := zGG hg l; revert O T U X d0 e0 f0 E0 G0 a2; clear y l HB; intro y l HB z F5 e2 T0 U0 V0 X0; clear hb hbox hg; have f5g := R0.out; have f5j := S0.out; have f5l := T0.out; have f5m := U0.out; obtain ⟨d7s, d7t, d7u, d7x, d7y, d7z, d8a, d8b, d8c, d8d, d0e, d8e, d8f, d8g, d8j, d8l, d8m, d8n, d8o, d8p, d8q, d0f⟩ := zc11 y) | ((with_reducible refine gc 43 rfl ?_); refine zF 15 Try.func43 #[.agg #[.int .i64 c0, .int .i64 p0, .int .i64 q0, .int .i64 t0, .int .i64 x0, .int .i64 j0, .int .i64 m0, .int .i64 n0, .int .i64 A0, .int .i64 y0, .int .i64 b0]] rfl zL ?_; (with_reducible refine (impl_RuleOk.calls c0 p0 q0 t0 x0 j0 m0 n0 A0 y0 b0 true _ A4.out).mono ?_); rintro e g5y ⟨rfl, hb⟩; refine ⟨_, rfl, ?_⟩; have O := z7 y hb; have T := z7 l hb; have U := z7 z hb; have X := z8 hb; revert O T U X; clear y l z HB; intro y l z HB; have f5n := V0.out; have f5o := X0.out; obtain ⟨d8s, d8t, d8u, d8x, d8y, d8z, d9a, d9b, d9c, d9d, d9e, d9f⟩ := zc6 l) | (go_at_call 26; (with_reducible refine (impl_OptOk.calls k _ _ L _ _ g0 _ _ i0 C0 B0 J0 true _ ?side1 ?side2 ?side3 ?side4 ?side5 ?side6 A6.out).mono ?_); (case side1 => exact zS f2); (case side2 => exact q3.out); (case side3 => exact zS g2); (case side4 => exact t3.out); (case side5 => exact zS i2); (case side6 => exact x3.out); rintro e g5z ⟨rfl, hb⟩; have O := z7 y hb; have T := z7 l hb; have U := z7 z hb; have X := z8 hb; revert O T U X; clear y l z HB; intro y l z HB; obtain ⟨d9g, d9j, d9l, d9m, d9n, d9o, d9p, d9q, d9s, d9t, d9u, d9x⟩ := zc6 l) | ((with_reducible refine gc 44 rfl ?_); refine zF 37 Try.func44 #[.agg #[.slice B1 L.length a1, .slice t1 g0.length b1, .slice x1 i0.length d1, .int .i64 C0, .int .i64 B0, .int .i64 J0]] rfl zL ?_; refine (impl_cloneOpt.calls _ _ L _ _ g0 _ _ i0 C0 B0 J0 e1 f1 g1 o0 D0 O0 _ (zS f2) q3.out (zS g2) t3.out (zS i2) x3.out A23.out).mono ?_; rintro e g6a ⟨v315, v318, v321, rfl, q2, b8, d8, hb⟩; refine ⟨_, rfl, ?_⟩; have O := zK (Kd.R_lower q2 (zz zB)); have T := zK (Kd.R_lower b8 (zz zB)); have U := zK (Kd.R_lower d8 (zz zB)); have X := z7 y hb; have d0 := z7 l hb; have e0 := z7 z hb; have f0 := z8 hb; revert O T U X d0 e0 f0; clear y l z HB; intro L0 M0 N0 y l z HB) | ((with_reducible refine gd 8 rfl ?_); (try (refine gate_guard (by rfl) ?_; dsimp only)); refine zJ 8 #[.slice none 0 0, .slice none 0 0, .slice none 0 0, .int .i64 0, .int .i64 0, .int .i64 0] 30 ?_; intro J hg d9y hbox hb; have O := zK (Kd.R_below (zkR L0) hb); have T := zK (Kd.R_below (zkR M0) hb); have U := zK (Kd.R_below (zkR N0) hb); have X := z7 y hb; have d0 := z7 l hb; have e0 := z7 z hb; have f0 := z8 hb; have E0 := zK (hbox); have G0 := z9 hg; have a2 := z9 hg; have N6 := zHH hg y; have O6 := zGG hg y; have R6 := zHH hg l; have S6 := zGG hg l; have T6 := zHH hg z; have U6 := zGG hg z; revert O T U X d0 e0 f0 E0 G0 a2 N6 O6 R6 S6 T6 U6; clear L0 M0 N0 y l z HB; intro L0 M0 N0 y l z HB a b3n p3 j1 l1 D1 E1 F1 G1; clear hb hbox hg; obtain ⟨t2, x2, c8g⟩ := Kd.R_slice L0.out; subst c8g; have f5p := l1.out; have f5q := j1.out; have f5s := E1.out; have f5t := D1.out; have f5u := G1.out; have f5x := F1.out; obtain ⟨d9z, e0a, e0b, e0c, e0d, e0e, e0f, e0g, e0j, e0l, e0m, e0n⟩ := zc6 a; obtain ⟨y2, B2, c8j⟩ := Kd.R_slice M0.out; subst c8j; obtain ⟨C2, D2, c8l⟩ := Kd.R_slice N0.out; subst c8l) | ((with_reducible refine gate_store (t := 30) (p := 8) rfl ?_); refine store_event (t := 30) (p := 8) (v := ?vo_w315) (w1 := ((((((d9y.setCell ⟨J, 0, none⟩ (.slice t2 e1.length x2)).setCell ⟨J, 1, none⟩ (.slice y2 f1.length B2)).setCell ⟨J, 2, none⟩ (.slice C2 g1.length D2)).setCell ⟨J, 3, none⟩ (.int .i64 o0)).setCell ⟨J, 4, none⟩ (.int .i64 D0)).setCell ⟨J, 5, none⟩ (.int .i64 O0))) ?hg ?ho ?hn ?hr ?_; (case ho => rfl); (case hg => rfl); (case hn => rfl); (case hr => first | (go_simp; done) | (go_simp; rfl)); intro L4 hw; have O : Aside0 (Kd.R (Kd.int .i64) 3 L4 w.heap.size (fun k_ => some k_ ≠ (.slice y2 f1.length B2 : Value).ownBlock ∧ some k_ ≠ (.slice C2 g1.length D2 : Value).ownBlock) (.slice t2 e1.length x2) e1) := ⟨(by rw [hw]; exact (Kd.R_mono (zlR (Kd.R_types L0.out a.out (by decide))) (fun _ hk => ⟨hk.1.1, hk.1.2⟩)))⟩; have T : Aside0 (Kd.R (Kd.int .i64) 3 L4 w.heap.size (fun k_ => some k_ ≠ (.slice t2 e1.length x2 : Value).ownBlock ∧ some k_ ≠ (.slice C2 g1.length D2 : Value).ownBlock) (.slice y2 f1.length B2) f1) := ⟨(by rw [hw]; exact (Kd.R_mono (zlR (Kd.R_types M0.out a.out (by decide))) (fun _ hk => ⟨hk.1.1, hk.1.2⟩)))⟩; have U : Aside0 (Kd.R (Kd.int .i64) 3 L4 w.heap.size (fun k_ => some k_ ≠ (.slice t2 e1.length x2 : Value).ownBlock ∧ some k_ ≠ (.slice y2 f1.length B2 : Value).ownBlock) (.slice C2 g1.length D2) g1) := ⟨(by rw [hw]; exact (Kd.R_mono (zlR (Kd.R_types N0.out a.out (by decide))) (fun _ hk => ⟨hk.1.1, hk.1.2⟩)))⟩; have X : Aside0 (L4.heap[i1]? = some (.cells #[.int .i64 c0, .int .i64 p0, .int .i64 q0, .int .i64 t0, .int .i64 x0, .int .i64 j0, .int .i64 m0, .int .i64 n0, .int .i64 A0, .int .i64 y0, .int .i64 b0] 35 (0, 0))) := ⟨(by rw [hw]; exact (zV y))⟩; have d0 : Aside0 (L4.heap[I0]? = some (.cells #[.slice B1 L.length a1, .slice t1 g0.length b1, .slice x1 i0.length d1, .int .i64 C0, .int .i64 B0, .int .i64 J0] 30 (0, 0))) := ⟨(by rw [hw]; exact (zV l))⟩; have e0 : Aside0 (L4.heap[M]? = some (.cells #[.slice none 0 0, .slice none 0 0, .slice none 0 0, .int .i64 0, .int .i64 0, .int .i64 0] 30 (0, 0))) := ⟨(by rw [hw]; exact (zV z))⟩; have f0 : Aside0 (L4.heap[J]? = some (.cells #[.slice t2 e1.length x2, .slice y2 f1.length B2, .slice C2 g1.length D2, .int .i64 o0, .int .i64 D0, .int .i64 O0] 30 (0, 0))) := ⟨(by rw [hw]; exact (zW a))⟩; have E0 : Aside0 (Below w.heap.size w L4) := ⟨(by rw [hw]; exact zB)⟩; revert O T U X d0 e0 f0 E0; clear hw L0 M0 N0 y l z a HB; intro L0 M0 N0 y l z a HB; obtain ⟨e0o, e0p, e0q, e0s, e0t, e0u, e0x, e0y, e0z, e1a, e1b, e1c⟩ := zc6 a) | ((with_reducible refine gc 45 rfl ?_); refine zF 43 Try.func45 #[.slice A2 l2.length c2] rfl zL ?_; refine (impl_gradOk.calls k _ _ l2 false _ (z4 T7.out zB) U7.out A24.out).mono ?_; rintro e w' ⟨rfl, ⟨nd, rfl⟩⟩; refine ⟨_, rfl, ?_⟩; obtain ⟨e1d, e1e, e1f, e1g, e1j, e1l, e1m, e1n, e1o, e1p, e1q, e1s⟩ := zc6 l; obtain ⟨e1t, e1u, e1x, e1y, e1z, e2a, e2b, e2c, e2d, e2e, e2f, e2g⟩ := zc6 z) | ((with_reducible refine gate_store (t := 3) (p := 50) rfl ?_); refine store_event (t := 3) (p := 50) (v := ?vp_w319) (w1 := ((((L4.setCell ⟨J, 3, none⟩ (.int .i64 (wrap64 (o0 + 1)))).drewN nd).setCell ⟨J, 4, none⟩ (.int .i64 ji294)).setCell ⟨J, 5, none⟩ (.int .i64 0))) ?hg ?ho ?hn ?hr ?_; (case ho => rfl); (case hg => rfl); (case hn => rfl); (case hr => first | (go_simp; done) | (go_simp; rfl)); intro Wm_ hw; have O : Aside0 (Kd.R (Kd.int .i64) 3 Wm_ w.heap.size (fun k_ => some k_ ≠ (.slice y2 f1.length B2 : Value).ownBlock ∧ some k_ ≠ (.slice C2 g1.length D2 : Value).ownBlock) (.slice t2 e1.length x2) e1) := ⟨(by rw [hw]; exact (Kd.R_mono (zlR (Kd.R_types L0.out a.out (by decide))) (fun _ hk => ⟨hk.1.1, hk.1.2⟩)))⟩; have T : Aside0 (Kd.R (Kd.int .i64) 3 Wm_ w.heap.size (fun k_ => some k_ ≠ (.slice t2 e1.length x2 : Value).ownBlock ∧ some k_ ≠ (.slice C2 g1.length D2 : Value).ownBlock) (.slice y2 f1.length B2) f1) := ⟨(by rw [hw]; exact (Kd.R_mono (zlR (Kd.R_types M0.out a.out (by decide))) (fun _ hk => ⟨hk.1.1, hk.1.2⟩)))⟩; have U : Aside0 (Kd.R (Kd.int .i64) 3 Wm_ w.heap.size (fun k_ => some k_ ≠ (.slice t2 e1.length x2 : Value).ownBlock ∧ some k_ ≠ (.slice y2 f1.length B2 : Value).ownBlock) (.slice C2 g1.length D2) g1) := ⟨(by rw [hw]; exact (Kd.R_mono (zlR (Kd.R_types N0.out a.out (by decide))) (fun _ hk => ⟨hk.1.1, hk.1.2⟩)))⟩; have X : Aside0 (Wm_.heap[i1]? = some (.cells #[.int .i64 c0, .int .i64 p0, .int .i64 q0, .int .i64 t0, .int .i64 x0, .int .i64 j0, .int .i64 m0, .int .i64 n0, .int .i64 A0, .int .i64 y0, .int .i64 b0] 35 (0, 0))) := ⟨(by rw [hw]; exact (zV y))⟩; have d0 : Aside0 (Wm_.heap[I0]? = some (.cells #[.slice B1 L.length a1, .slice t1 g0.length b1, .slice x1 i0.length d1, .int .i64 C0, .int .i64 B0, .int .i64 J0] 30 (0, 0))) := ⟨(by rw [hw]; exact (zV l))⟩; have e0 : Aside0 (Wm_.heap[M]? = some (.cells #[.slice none 0 0, .slice none 0 0, .slice none 0 0, .int .i64 0, .int .i64 0, .int .i64 0] 30 (0, 0))) := ⟨(by rw [hw]; exact (zV z))⟩; have f0 : Aside0 (Wm_.heap[J]? = some (.cells #[.slice t2 e1.length x2, .slice y2 f1.length B2, .slice C2 g1.length D2, .int .i64 (wrap64 (o0 + 1)), .int .i64 ji294, .int .i64 0] 30 (0, 0))) := ⟨(by rw [hw]; exact (zW a))⟩; have E0 : Aside0 (Below w.heap.size w Wm_) := ⟨(by rw [hw]; exact zB)⟩; revert O T U X d0 e0 f0 E0; clear hw L0 M0 N0 y l z a HB; intro L0 M0 N0 y l z a HB; obtain ⟨k1_, k2_, k3_, k4_, k5_, k6_, k7_, k8_, k9_, ka_, kb_, kc_⟩ := zc6 a; obtain ⟨l1_, l2_, l3_, l4_, l5_, l6_, l7_, l8_, l9_, la_, lb_, lc_⟩ := zc6 z) | ((with_reducible refine gate_store (t := 30) (p := 6) rfl ?_); refine store_event (t := 30) (p := 6) (v := ?vo_w319) (w1 := ((((((Wm_.setCell ⟨M, 0, none⟩ (.slice t2 e1.length x2)).setCell ⟨M, 1, none⟩ (.slice y2 f1.length B2)).setCell ⟨M, 2, none⟩ (.slice C2 g1.length D2)).setCell ⟨M, 3, none⟩ (.int .i64 (wrap64 (o0 + 1)))).setCell ⟨M, 4, none⟩ (.int .i64 ji294)).setCell ⟨M, 5, none⟩ (.int .i64 0))) ?hg ?ho ?hn ?hr ?_; (case ho => rfl); (case hg => rfl); (case hn => rfl); (case hr => first | (go_simp; done) | (go_simp; rfl)); intro B5 hw; have O : Aside0 (Kd.R (Kd.int .i64) 3 B5 w.heap.size (fun k_ => some k_ ≠ (.slice y2 f1.length B2 : Value).ownBlock ∧ some k_ ≠ (.slice C2 g1.length D2 : Value).ownBlock) (.slice t2 e1.length x2) e1) := ⟨(by rw [hw]; exact (Kd.R_mono (zlR (Kd.R_types L0.out z.out (by decide))) (fun _ hk => ⟨hk.1.1, hk.1.2⟩)))⟩; have T : Aside0 (Kd.R (Kd.int .i64) 3 B5 w.heap.size (fun k_ => some k_ ≠ (.slice t2 e1.length x2 : Value).ownBlock ∧ some k_ ≠ (.slice C2 g1.length D2 : Value).ownBlock) (.slice y2 f1.length B2) f1) := ⟨(by rw [hw]; exact (Kd.R_mono (zlR (Kd.R_types M0.out z.out (by decide))) (fun _ hk => ⟨hk.1.1, hk.1.2⟩)))⟩; have U : Aside0 (Kd.R (Kd.int .i64) 3 B5 w.heap.size (fun k_ => some k_ ≠ (.slice t2 e1.length x2 : Value).ownBlock ∧ some k_ ≠ (.slice y2 f1.length B2 : Value).ownBlock) (.slice C2 g1.length D2) g1) := ⟨(by rw [hw]; exact (Kd.R_mono (zlR (Kd.R_types N0.out z.out (by decide))) (fun _ hk => ⟨hk.1.1, hk.1.2⟩)))⟩; have X : Aside0 (B5.heap[i1]? = some (.cells #[.int .i64 c0, .int .i64 p0, .int .i64 q0, .int .i64 t0, .int .i64 x0, .int .i64 j0, .int .i64 m0, .int .i64 n0, .int .i64 A0, .int .i64 y0, .int .i64 b0] 35 (0, 0))) := ⟨(by rw [hw]; exact (zV y))⟩; have d0 : Aside0 (B5.heap[I0]? = some (.cells #[.slice B1 L.length a1, .slice t1 g0.length b1, .slice x1 i0.length d1, .int .i64 C0, .int .i64 B0, .int .i64 J0] 30 (0, 0))) := ⟨(by rw [hw]; exact (zV l))⟩; have e0 : Aside0 (B5.heap[M]? = some (.cells #[.slice t2 e1.length x2, .slice y2 f1.length B2, .slice C2 g1.length D2, .int .i64 (wrap64 (o0 + 1)), .int .i64 ji294, .int .i64 0] 30 (0, 0))) := ⟨(by rw [hw]; exact (zW z))⟩; have f0 : Aside0 (B5.heap[J]? = some (.cells #[.slice t2 e1.length x2, .slice y2 f1.length B2, .slice C2 g1.length D2, .int .i64 (wrap64 (o0 + 1)), .int .i64 ji294, .int .i64 0] 30 (0, 0))) := ⟨(by rw [hw]; exact (zV a))⟩; have E0 : Aside0 (Below w.heap.size w B5) := ⟨(by rw [hw]; exact zB)⟩; revert O T U X d0 e0 f0 E0; clear hw L0 M0 N0 y l z a HB; intro L0 M0 N0 y l z a HB))
   refine bodyPost_ret (results_ct rfl _ _ M 30 #[.slice t2 e1.length x2, .slice y2 f1.length B2, .slice C2 g1.length D2, .int .i64 (wrap64 (o0 + 1)), .int .i64 ji294, .int .i64 0] (0, 0) _ rfl (zM z) Try.underlying30 rfl (by kernel_rfl)) rfl ?_
   exact ⟨_, _, _, by first | rfl | (simp [errW_none, errW_some] <;> rfl) | (simp only [← hji294]; first | rfl | (simp [errW_none, errW_some] <;> rfl)) | (simp [*, errW_none, errW_some] <;> rfl), zkR L0, zkR M0, zkR N0, zB⟩
 subst a8
 rw [if_pos rfl] at H
 replace H := z6 H
 obtain ⟨A3, c6z, H⟩ := H
 have A26 := zK c6z
 clear c6z
 by_cases F6 : y0 > 0
 rotate_left
 · rw [if_neg F6] at H
   have y7 := z2 F6
   clear F6
   replace H := z6 H
   obtain ⟨L1, b3o, H⟩ := H
   have e2j := zK b3o
   clear b3o
   replace H := z6 H
   obtain ⟨c6s, b3p, H⟩ := H
   have g6b := zK b3p
   clear b3p
   have H' := zK H
   clear H
   go_enter Try.func12, Try.ntmps12
   go_wp2_with (first | ((with_reducible refine gd 3 rfl ?_); (try (refine gate_guard (by rfl) ?_; dsimp only)); refine zJ 3 #[.int .i64 c0, .int .i64 p0, .int .i64 q0, .int .i64 t0, .int .i64 x0, .int .i64 j0, .int .i64 m0, .int .i64 n0, .int .i64 A0, .int .i64 y0, .int .i64 b0] 35 ?_; intro i1 hg g6c hbox hb; have O := z8 hb; have T := zK (hbox); have U := z9 hg; have X := z9 hg; revert O T U X; clear HB; intro HB y D5 b2; clear hb hbox hg) | ((with_reducible refine gd 4 rfl ?_); (try (refine gate_guard (by rfl) ?_; dsimp only)); refine zJ 4 #[.slice B1 L.length a1, .slice t1 g0.length b1, .slice x1 i0.length d1, .int .i64 C0, .int .i64 B0, .int .i64 J0] 30 ?_; intro I0 hg g6d hbox hb; have O := z7 y hb; have T := z8 hb; have U := zK (hbox); have X := z9 hg; have d0 := z9 hg; have e0 := zHH hg y; have f0 := zGG hg y; revert O T U X d0 e0 f0; clear y HB; intro y HB l E5 d2 R0 S0; clear hb hbox hg) | ((with_reducible refine gd 6 rfl ?_); (try (refine gate_guard (by rfl) ?_; dsimp only)); refine zJ 6 #[.slice none 0 0, .slice none 0 0, .slice none 0 0, .int .i64 0, .int .i64 0, .int .i64 0] 30 ?_; intro M hg g6e hbox hb; have O := z7 y hb; have T := z7 l hb; have U := z8 hb; have X := zK (hbox); have d0 := z9 hg; have e0 := z9 hg; have f0 := zHH hg y; have E0 := zGG hg y; have G0 := zHH hg l; have a2 := zGG hg l; revert O T U X d0 e0 f0 E0 G0 a2; clear y l HB; intro y l HB z F5 e2 T0 U0 V0 X0; clear hb hbox hg; have f5y := R0.out; have f5z := S0.out; have f6a := T0.out; have f6b := U0.out; obtain ⟨N8, O8, R8, S8, T8, U8, V8, X8, a9, b9, e8, d9, e9, f9, g9, i9, j9, l9, m9, n9, o9, f8⟩ := zc11 y) | ((with_reducible refine gc 43 rfl ?_); refine zF 15 Try.func43 #[.agg #[.int .i64 c0, .int .i64 p0, .int .i64 q0, .int .i64 t0, .int .i64 x0, .int .i64 j0, .int .i64 m0, .int .i64 n0, .int .i64 A0, .int .i64 y0, .int .i64 b0]] rfl zL ?_; (with_reducible refine (impl_RuleOk.calls c0 p0 q0 t0 x0 j0 m0 n0 A0 y0 b0 true _ A4.out).mono ?_); rintro e g6f ⟨rfl, hb⟩; refine ⟨_, rfl, ?_⟩; have O := z7 y hb; have T := z7 l hb; have U := z7 z hb; have X := z8 hb; revert O T U X; clear y l z HB; intro y l z HB; have f6c := V0.out; have f6d := X0.out; obtain ⟨p9, q9, t9, x9, y9, A9, B9, C9, D9, E9, F9, G9⟩ := zc6 l) | (go_at_call 26; (with_reducible refine (impl_OptOk.calls k _ _ L _ _ g0 _ _ i0 C0 B0 J0 true _ ?side1 ?side2 ?side3 ?side4 ?side5 ?side6 A6.out).mono ?_); (case side1 => exact zS f2); (case side2 => exact q3.out); (case side3 => exact zS g2); (case side4 => exact t3.out); (case side5 => exact zS i2); (case side6 => exact x3.out); rintro e g6g ⟨rfl, hb⟩; have O := z7 y hb; have T := z7 l hb; have U := z7 z hb; have X := z8 hb; revert O T U X; clear y l z HB; intro y l z HB; obtain ⟨I9, J9, L9, M9, N9, O9, R9, S9, T9, U9, V9, X9⟩ := zc6 l) | ((with_reducible refine gc 44 rfl ?_); refine zF 37 Try.func44 #[.agg #[.slice B1 L.length a1, .slice t1 g0.length b1, .slice x1 i0.length d1, .int .i64 C0, .int .i64 B0, .int .i64 J0]] rfl zL ?_; refine (impl_cloneOpt.calls _ _ L _ _ g0 _ _ i0 C0 B0 J0 e1 f1 g1 o0 D0 O0 _ (zS f2) q3.out (zS g2) t3.out (zS i2) x3.out A23.out).mono ?_; rintro e g6j ⟨v315, v318, v321, rfl, q2, b8, d8, hb⟩; refine ⟨_, rfl, ?_⟩; have O := zK (Kd.R_lower q2 (zz zB)); have T := zK (Kd.R_lower b8 (zz zB)); have U := zK (Kd.R_lower d8 (zz zB)); have X := z7 y hb; have d0 := z7 l hb; have e0 := z7 z hb; have f0 := z8 hb; revert O T U X d0 e0 f0; clear y l z HB; intro L0 M0 N0 y l z HB) | ((with_reducible refine gd 8 rfl ?_); (try (refine gate_guard (by rfl) ?_; dsimp only)); refine zJ 8 #[.slice none 0 0, .slice none 0 0, .slice none 0 0, .int .i64 0, .int .i64 0, .int .i64 0] 30 ?_; intro J hg e2l hbox hb; have O := zK (Kd.R_below (zkR L0) hb); have T := zK (Kd.R_below (zkR M0) hb); have U := zK (Kd.R_below (zkR N0) hb); have X := z7 y hb; have d0 := z7 l hb; have e0 := z7 z hb; have f0 := z8 hb; have E0 := zK (hbox); have G0 := z9 hg; have a2 := z9 hg; have N6 := zHH hg y; have O6 := zGG hg y; have R6 := zHH hg l; have S6 := zGG hg l; have T6 := zHH hg z; have U6 := zGG hg z; revert O T U X d0 e0 f0 E0 G0 a2 N6 O6 R6 S6 T6 U6; clear L0 M0 N0 y l z HB; intro L0 M0 N0 y l z HB a b3n p3 j1 l1 D1 E1 F1 G1; clear hb hbox hg; obtain ⟨M4, N4, c8m⟩ := Kd.R_slice L0.out; subst c8m; have f6e := l1.out; have f6f := j1.out; have f6g := E1.out; have f6j := D1.out; have f6l := G1.out; have f6m := F1.out; obtain ⟨a0a, a0b, a0c, a0d, a0e, a0f, a0g, a0j, a0l, a0m, a0n, a0o⟩ := zc6 a; obtain ⟨O4, R4, c8n⟩ := Kd.R_slice M0.out; subst c8n; obtain ⟨S4, T4, c8o⟩ := Kd.R_slice N0.out; subst c8o) | ((with_reducible refine gate_store (t := 30) (p := 8) rfl ?_); refine store_event (t := 30) (p := 8) (v := ?vo_w185) (w1 := ((((((e2l.setCell ⟨J, 0, none⟩ (.slice M4 e1.length N4)).setCell ⟨J, 1, none⟩ (.slice O4 f1.length R4)).setCell ⟨J, 2, none⟩ (.slice S4 g1.length T4)).setCell ⟨J, 3, none⟩ (.int .i64 o0)).setCell ⟨J, 4, none⟩ (.int .i64 D0)).setCell ⟨J, 5, none⟩ (.int .i64 O0))) ?hg ?ho ?hn ?hr ?_; (case ho => rfl); (case hg => rfl); (case hn => rfl); (case hr => first | (go_simp; done) | (go_simp; rfl)); intro C5 hw; have O : Aside0 (Kd.R (Kd.int .i64) 3 C5 w.heap.size (fun k_ => some k_ ≠ (.slice O4 f1.length R4 : Value).ownBlock ∧ some k_ ≠ (.slice S4 g1.length T4 : Value).ownBlock) (.slice M4 e1.length N4) e1) := ⟨(by rw [hw]; exact (Kd.R_mono (zlR (Kd.R_types L0.out a.out (by decide))) (fun _ hk => ⟨hk.1.1, hk.1.2⟩)))⟩; have T : Aside0 (Kd.R (Kd.int .i64) 3 C5 w.heap.size (fun k_ => some k_ ≠ (.slice M4 e1.length N4 : Value).ownBlock ∧ some k_ ≠ (.slice S4 g1.length T4 : Value).ownBlock) (.slice O4 f1.length R4) f1) := ⟨(by rw [hw]; exact (Kd.R_mono (zlR (Kd.R_types M0.out a.out (by decide))) (fun _ hk => ⟨hk.1.1, hk.1.2⟩)))⟩; have U : Aside0 (Kd.R (Kd.int .i64) 3 C5 w.heap.size (fun k_ => some k_ ≠ (.slice M4 e1.length N4 : Value).ownBlock ∧ some k_ ≠ (.slice O4 f1.length R4 : Value).ownBlock) (.slice S4 g1.length T4) g1) := ⟨(by rw [hw]; exact (Kd.R_mono (zlR (Kd.R_types N0.out a.out (by decide))) (fun _ hk => ⟨hk.1.1, hk.1.2⟩)))⟩; have X : Aside0 (C5.heap[i1]? = some (.cells #[.int .i64 c0, .int .i64 p0, .int .i64 q0, .int .i64 t0, .int .i64 x0, .int .i64 j0, .int .i64 m0, .int .i64 n0, .int .i64 A0, .int .i64 y0, .int .i64 b0] 35 (0, 0))) := ⟨(by rw [hw]; exact (zV y))⟩; have d0 : Aside0 (C5.heap[I0]? = some (.cells #[.slice B1 L.length a1, .slice t1 g0.length b1, .slice x1 i0.length d1, .int .i64 C0, .int .i64 B0, .int .i64 J0] 30 (0, 0))) := ⟨(by rw [hw]; exact (zV l))⟩; have e0 : Aside0 (C5.heap[M]? = some (.cells #[.slice none 0 0, .slice none 0 0, .slice none 0 0, .int .i64 0, .int .i64 0, .int .i64 0] 30 (0, 0))) := ⟨(by rw [hw]; exact (zV z))⟩; have f0 : Aside0 (C5.heap[J]? = some (.cells #[.slice M4 e1.length N4, .slice O4 f1.length R4, .slice S4 g1.length T4, .int .i64 o0, .int .i64 D0, .int .i64 O0] 30 (0, 0))) := ⟨(by rw [hw]; exact (zW a))⟩; have E0 : Aside0 (Below w.heap.size w C5) := ⟨(by rw [hw]; exact zB)⟩; revert O T U X d0 e0 f0 E0; clear hw L0 M0 N0 y l z a HB; intro L0 M0 N0 y l z a HB; obtain ⟨a0p, a0q, a0s, a0t, a0u, a0x, a0y, a0z, a1a, a1b, a1c, a1d⟩ := zc6 a) | ((with_reducible refine gc 45 rfl ?_); refine zF 43 Try.func45 #[.slice A2 l2.length c2] rfl zL ?_; refine (impl_gradOk.calls k _ _ l2 true _ (z4 T7.out zB) U7.out A24.out).mono ?_; rintro e w' ⟨rfl, ⟨nd, rfl⟩⟩; refine ⟨_, rfl, ?_⟩; obtain ⟨a1e, a1f, a1g, a1j, a1l, a1m, a1n, a1o, a1p, a1q, a1s, a1t⟩ := zc6 l) | ((with_reducible refine gc 46 rfl ?_); refine zF 54 Try.func46 #[.slice A2 l2.length c2, .func (.func 47) #[] #[.pointer (some ⟨I0, 0, none⟩)]] rfl zL ?_; (with_reducible refine (Mapped.mapped.calls47 k _ _ l2 (fun x => impl_Near.f x B0) I0 A3 _ ?side0 ?side1 ?side2 (by with_unfolding_all exact A26.out)).mono ?_); (case side0 => intro W_ x_ t_ hW_ hx_; exact StepH.near47 x_ B0 t_ I0 W_ (StepH.hcell hW_ ((zc (zV l) 4).trans rfl)) hx_); (case side1 => exact z4 T7.out zB); (case side2 => exact U7.out); rintro e g6l ⟨v329, rfl, q2, hb⟩; refine ⟨_, rfl, ?_⟩; have O := zK (Kd.R_elder' (Kd.R_mono (zlR (Kd.R_types L0.out a.out (by decide))) (fun _ h_ => h_.1)) (Kd.R_base q2) hb); have T := zK (Kd.R_elder' (Kd.R_mono (zlR (Kd.R_types M0.out a.out (by decide))) (fun _ h_ => h_.1)) (Kd.R_base q2) hb); have U := zK (Kd.R_elder' (Kd.R_mono (zlR (Kd.R_types N0.out a.out (by decide))) (fun _ h_ => h_.1)) (Kd.R_base q2) hb); have X := zK (Kd.R_lower (Kd.R_new' (Kd.R_new' (Kd.R_new' q2 (Kd.R_lt (Kd.R_mono (zlR (Kd.R_types L0.out a.out (by decide))) (fun _ h_ => h_.1)))) (Kd.R_lt (Kd.R_mono (zlR (Kd.R_types M0.out a.out (by decide))) (fun _ h_ => h_.1)))) (Kd.R_lt (Kd.R_mono (zlR (Kd.R_types N0.out a.out (by decide))) (fun _ h_ => h_.1)))) (zz zB)); have d0 := zK (zg (zV y) hb); have e0 := zK (zg (zV l) hb); have f0 := zK (zg (zV z) hb); have E0 := zK (zg (g := J) (o := .cells #[.slice M4 e1.length N4, .slice O4 f1.length R4, .slice S4 g1.length T4, .int .i64 (wrap64 (o0 + 1)), .int .i64 D0, .int .i64 O0] 30 (0, 0)) (zW a) hb); have G0 := z8 hb; revert O T U X d0 e0 f0 E0 G0; clear L0 M0 N0 y l z a HB; intro L0 M0 N0 C1 y l z a HB; obtain ⟨a1u, a1x, a1y, a1z, a2a, a2b, a2c, a2d, a2e, a2f, g8, a2g, a2j, a2l, a2m, a2n, a2o, a2p, a2q, a2s, a2t, i8⟩ := zc11 y; obtain ⟨a2u, a2x, a2y, a2z, a3a, a3b, a3c, a3d, a3e, a3f, a3g, a3j⟩ := zc6 l) | ((with_reducible refine gc 50 rfl ?_); refine zF 66 Try.func50 #[.agg #[.int .i64 p0, .int .i64 q0, .int .i64 t0, .int .i64 x0], .int .i64 C0] rfl zL ?_; (with_reducible refine (impl_Rate.calls p0 q0 t0 x0 C0 L1 _ e2j.out).mono ?_); rintro e g6m ⟨rfl, hb⟩; refine ⟨_, rfl, ?_⟩; have O := zK (Kd.R_below (zkR L0) hb); have T := zK (Kd.R_below (zkR M0) hb); have U := zK (Kd.R_below (zkR N0) hb); have X := zK (Kd.R_below (zkR C1) hb); have d0 := z7 y hb; have e0 := z7 l hb; have f0 := z7 z hb; have E0 := z7 a hb; have G0 := z8 hb; revert O T U X d0 e0 f0 E0 G0; clear L0 M0 N0 C1 y l z a HB; intro L0 M0 N0 C1 y l z a HB; obtain ⟨a3l, a3m, a3n, a3o, a3p, a3q, a3s, a3t, a3u, a3x, j8, a3y, a3z, a4a, a4b, a4c, a4d, a4e, a4f, a4g, a4j, l8⟩ := zc11 y) | ((with_reducible refine gc 51 rfl ?_); refine zF 68 Try.func51 #[.agg #[.int .i64 c0, .int .i64 p0, .int .i64 q0, .int .i64 t0, .int .i64 x0, .int .i64 j0, .int .i64 m0, .int .i64 n0, .int .i64 A0, .int .i64 y0, .int .i64 b0]] rfl zL ?_; (with_reducible refine (StepP.moverOf c0 p0 q0 t0 x0 j0 m0 n0 A0 y0 b0 _).mono ?_); rintro e g6n ⟨rfl, hb⟩; refine ⟨_, rfl, ?_⟩; have O := zK (Kd.R_below (zkR L0) hb); have T := zK (Kd.R_below (zkR M0) hb); have U := zK (Kd.R_below (zkR N0) hb); have X := zK (Kd.R_below (zkR C1) hb); have d0 := z7 y hb; have e0 := z7 l hb; have f0 := z7 z hb; have E0 := z7 a hb; have G0 := z8 hb; revert O T U X d0 e0 f0 E0 G0; clear L0 M0 N0 C1 y l z a HB; intro L0 M0 N0 C1 y l z a HB; obtain ⟨a4l, a4m, a4n, a4o, a4p, a4q, a4s, a4t, a4u, a4x, a4y, a4z⟩ := zc6 l))
   go_loopg [72] k (fun kq v72 w' => ∃ (F0 : List Int) (u : Int) (I : List Int) (E : List Int) (D : List Int) (u327000 : Value) (u327001 : Value) (u327002 : Value), v72 = .int .i64 u ∧ Aside0 (impl_StepOpt.l0 kq F0 L1 L (L.length : Int) u c0 p0 q0 t0 x0 j0 m0 n0 A0 y0 b0 L g0 i0 C0 B0 J0 I E D (wrap64 (o0 + 1)) D0 O0 = some (r1, r2, r3, r4, r5, r6, r7)) ∧ Aside0 (kq ≤ k) ∧ Aside0 (Kd.R (Kd.int .i64) 3 w' w.heap.size (fun k_ => some k_ ≠ (u327000 : Value).ownBlock ∧ some k_ ≠ (u327001 : Value).ownBlock ∧ some k_ ≠ (u327002 : Value).ownBlock) v329 F0) ∧ Aside0 (Kd.R (Kd.int .i64) 3 w' w.heap.size (fun k_ => some k_ ≠ (v329 : Value).ownBlock ∧ some k_ ≠ (u327001 : Value).ownBlock ∧ some k_ ≠ (u327002 : Value).ownBlock) u327000 I) ∧ Aside0 (Kd.R (Kd.int .i64) 3 w' w.heap.size (fun k_ => some k_ ≠ (v329 : Value).ownBlock ∧ some k_ ≠ (u327000 : Value).ownBlock ∧ some k_ ≠ (u327002 : Value).ownBlock) u327001 E) ∧ Aside0 (Kd.R (Kd.int .i64) 3 w' w.heap.size (fun k_ => some k_ ≠ (v329 : Value).ownBlock ∧ some k_ ≠ (u327000 : Value).ownBlock ∧ some k_ ≠ (u327001 : Value).ownBlock) u327002 D) ∧ Aside0 (w'.heap[i1]? = some (.cells #[.int .i64 c0, .int .i64 p0, .int .i64 q0, .int .i64 t0, .int .i64 x0, .int .i64 j0, .int .i64 m0, .int .i64 n0, .int .i64 A0, .int .i64 y0, .int .i64 b0] 35 (0, 0))) ∧ Aside0 (w'.heap[I0]? = some (.cells #[(.slice B1 L.length a1), (.slice t1 g0.length b1), (.slice x1 i0.length d1), .int .i64 C0, .int .i64 B0, .int .i64 J0] 30 (0, 0))) ∧ Aside0 (w'.heap[M]? = some (.cells #[(.slice none 0 0), (.slice none 0 0), (.slice none 0 0), .int .i64 0, .int .i64 0, .int .i64 0] 30 (0, 0))) ∧ Aside0 (w'.heap[J]? = some (.cells #[u327000, u327001, u327002, .int .i64 (wrap64 (o0 + 1)), .int .i64 D0, .int .i64 O0] 30 (0, 0))) ∧ Aside0 (Below w.heap.size w w'))
   case atStart => exact ⟨(A3), (0), (e1), (f1), (g1), (.slice M4 e1.length N4), (.slice O4 f1.length R4), (.slice S4 g1.length T4), zR, H', ⟨Nat.le_refl _⟩, ⟨Kd.R_mono (zlR C1.out) (fun _ hk => ⟨hk.1.1.2, ⟨hk.1.2, hk.2⟩⟩)⟩, ⟨Kd.R_mono (zlR L0.out) (fun _ hk => ⟨hk.2, ⟨hk.1.1, hk.1.2⟩⟩)⟩, ⟨Kd.R_mono (zlR M0.out) (fun _ hk => ⟨hk.2, ⟨hk.1.1, hk.1.2⟩⟩)⟩, ⟨Kd.R_mono (zlR N0.out) (fun _ hk => ⟨hk.2, ⟨hk.1.1, hk.1.2⟩⟩)⟩, ⟨zM y⟩, ⟨zM l⟩, ⟨zM z⟩, ⟨zM a⟩, ⟨zB⟩⟩
   clear H'
   try clear c1
   try clear p1
   try clear q1
   try clear hx1
   try clear c2
   try clear p2
   try clear c4
   try clear c5
   try clear c6
   try clear p6
   try clear c9
   try clear c10
   try clear p10
   try clear q10
   try clear g6t
   try clear hf10
   try clear c12
   try clear c13
   try clear c14
   try clear c15
   try clear c16
   try clear c17
   try clear c18
   try clear F6
   try clear y7
   try clear c43
   try clear c44
   try clear c45
   try clear c46
   try clear c47
   try clear c50
   try clear c51
   try clear c52
   try clear V6
   try clear b3q
   try clear p64
   try clear m8
   try clear n8
   try clear o8
   try clear p8
   try clear q8
   try clear X6
   try clear a7
   try clear b7
   try clear g3g
   try clear hf101
   try clear d7
   try clear e7
   try clear f7
   try clear g3j
   try clear hf103
   try clear g7
   try clear i7
   try clear j7
   try clear g3l
   try clear hf106
   try clear I5
   try clear t8
   try clear J5
   try clear x8
   try clear g6u
   try clear g6x
   try clear g6y
   try clear g6z
   try clear g7a
   try clear g7b
   try clear g7c
   try clear g7d
   try clear g7e
   try clear g7f
   try clear g7g
   try clear g7j
   try clear g7l
   try clear g7m
   try clear g7n
   try clear g7o
   try clear g7p
   try clear g7q
   try clear g7s
   try clear g7t
   try clear g7u
   try clear g7x
   try clear g7y
   try clear g7z
   try clear a5a a5b a5c a5d a5e a5f a5g a5j a5l a5m a5n a5o
   try clear a5p a5q y8 a5s a5t a5u a5x a5y a5z a6a a6b a6c a6d A8 a6e a6f a6g a6j a6l a6m a6n a6o
   try clear a6p a6q a6s a6t a6u a6x a6y a6z a7a a7b a7c a7d
   try clear a7e a7f a7g a7j a7l a7m a7n a7o a7p a7q a7s a7t
   try clear a7u a7x B8 a7y a7z a8a a8b a8c a8d a8e a8f a8g a8j C8 a8l a8m a8n a8o a8p a8q a8s a8t
   try clear a8u a8x a8y a8z a9a a9b a9c a9d a9e a9f a9g a9j
   try clear a9l a9m a9n a9o a9p a9q a9s a9t a9u a9x a9y a9z
   try clear b0a b0b D8 b0c b0d b0e b0f b0g b0j b0l b0m b0n b0o E8 b0p b0q b0s b0t b0u b0x b0y b0z
   try clear b1a b1b b1c b1d b1e b1f b1g b1j b1l b1m b1n b1o
   try clear N8 O8 e8 R8 S8 T8 U8 V8 X8 a9 b9 d9 e9 f8 f9 g9 i9 j9 l9 m9 n9 o9
   try clear p9 q9 t9 x9 y9 A9 B9 C9 D9 E9 F9 G9
   try clear I9 J9 L9 M9 N9 O9 R9 S9 T9 U9 V9 X9
   try clear a0a a0b a0c a0d a0e a0f a0g a0j a0l a0m a0n a0o
   try clear a0p a0q a0s a0t a0u a0x a0y a0z a1a a1b a1c a1d
   try clear a1e a1f a1g a1j a1l a1m a1n a1o a1p a1q a1s a1t
   try clear a1u a1x g8 a1y a1z a2a a2b a2c a2d a2e a2f a2g a2j i8 a2l a2m a2n a2o a2p a2q a2s a2t
   try clear a2u a2x a2y a2z a3a a3b a3c a3d a3e a3f a3g a3j
   try clear a3l a3m j8 a3n a3o a3p a3q a3s a3t a3u a3x a3y a3z l8 a4a a4b a4c a4d a4e a4f a4g a4j
   try clear a4l a4m a4n a4o a4p a4q a4s a4t a4u a4x a4y a4z
   try clear b8g
   try clear b8j
   try clear b8l
   try clear a7
   try clear e7
   try clear i7
   try clear b7
   try clear f7
   try clear j7
   obtain ⟨F0, u, I, E, D, u327000, u327001, u327002, rfl, HA, x6, a0, A, q, B, y, l, z, a, HB⟩ := hrel
   rcases gk with _ | k1
   · exact absurd HA.out (by simp [impl_StepOpt.l0])
   have H := HA.out
   clear HA
   simp only [impl_StepOpt.l0] at H
   by_cases B6 : u < (L.length : Int)
   rotate_left
   · rw [if_neg B6] at H
     have c7a := z2 B6
     clear B6
     obtain ⟨ji251, hji251⟩ : ∃ j_ : Int, (mn (wrap64 (O0 + 1)) 1000000) = j_ := ⟨_, rfl⟩
     replace H : (if b0 > 0 then (if (ji251) ≥ b0 then (some (I, E, D, (wrap64 (o0 + 1)), mn (wrap64 (2 * D0)) 65536, 0, true)) else (some (I, E, D, (wrap64 (o0 + 1)), D0, ji251, true))) else (some (I, E, D, (wrap64 (o0 + 1)), D0, ji251, true))) = some (r1, r2, r3, r4, r5, r6, r7) := by first | (rw [hji251] at H; exact H) | (simp only [hji251] at H ⊢; exact H)
     have hji251_ : (if 1000000 < (wrap64 (O0 + 1)) then 1000000 else (wrap64 (O0 + 1))) = ji251 := hji251
     by_cases C6 : b0 > 0
     rotate_left
     · rw [if_neg C6] at H
       have c7b := z2 C6
       clear C6
       simp only [Option.some.injEq, Prod.mk.injEq] at H
       obtain ⟨rfl, rfl, rfl, rfl, rfl, rfl, rfl⟩ := H
       have f6z := l1.out
       have f7a := j1.out
       have f7b := E1.out
       have f7c := D1.out
       have f7d := G1.out
       have f7e := F1.out
       have e2m : wr.cell? ⟨J, 0, none⟩ = some (u327000) := zy a 0
       have e2n : wr.cell? ⟨J, 1, none⟩ = some (u327001) := zy a 1
       have e2o : wr.cell? ⟨J, 2, none⟩ = some (u327002) := zy a 2
       have e2p : wr.cell? ⟨J, 3, none⟩ = some (.int .i64 (wrap64 (o0 + 1))) := zy a 3
       have e2q : wr.cell? ⟨J, 4, none⟩ = some (.int .i64 D0) := zy a 4
       have e2s : wr.cell? ⟨J, 5, none⟩ = some (.int .i64 O0) := zy a 5
       have e2t := zf a.out 0
       have e2u := zf a.out 1
       have e2x := zf a.out 2
       have e2y := zf a.out 3
       have e2z := zf a.out 4
       have e3a := zf a.out 5
       have f7f := R0.out
       have f7g := S0.out
       have f7j := T0.out
       have f7l := U0.out
       obtain ⟨e3b, e3c, e3d, e3e, e3f, e3g, e3j, e3l, e3m, e3n, d0j, e3o, e3p, e3q, e3s, e3t, e3u, e3x, e3y, e3z, e4a, d0l⟩ := zc11 y
       obtain ⟨D3, E3, c8p⟩ := Kd.R_slice A.out
       subst c8p
       have f7m := X0.out
       have f7n := V0.out
       obtain ⟨e4b, e4c, e4d, e4e, e4f, e4g, e4j, e4l, e4m, e4n, e4o, e4p⟩ := zc6 z
       obtain ⟨F3, G3, c8q⟩ := Kd.R_slice q.out
       subst c8q
       obtain ⟨I3, J3, c8s⟩ := Kd.R_slice B.out
       subst c8s
       go_wp2_with (first | ((with_reducible refine gate_store (t := 30) (p := 6) rfl ?_); refine store_event (t := 30) (p := 6) (v := ?vo_w293) (w1 := (((((((wr.setCell ⟨J, 5, none⟩ (.int .i64 ji251)).setCell ⟨M, 0, none⟩ (.slice D3 I.length E3)).setCell ⟨M, 1, none⟩ (.slice F3 E.length G3)).setCell ⟨M, 2, none⟩ (.slice I3 D.length J3)).setCell ⟨M, 3, none⟩ (.int .i64 (wrap64 (o0 + 1)))).setCell ⟨M, 4, none⟩ (.int .i64 D0)).setCell ⟨M, 5, none⟩ (.int .i64 ji251))) ?hg ?ho ?hn ?hr ?_; (case ho => rfl); (case hg => rfl); (case hn => rfl); (case hr => first | (go_simp; done) | (go_simp; rfl)); intro U4 hw; have O : Aside0 (Kd.R (Kd.int .i64) 3 U4 w.heap.size (fun k_ => some k_ ≠ (.slice D3 I.length E3 : Value).ownBlock ∧ some k_ ≠ (.slice F3 E.length G3 : Value).ownBlock ∧ some k_ ≠ (.slice I3 D.length J3 : Value).ownBlock) v329 F0) := ⟨(by rw [hw]; exact (Kd.R_mono (zlR (Kd.R_types (Kd.R_types a0.out a.out (by decide)) z.out (by decide))) (fun _ hk => ⟨hk.1.1.1, ⟨hk.1.1.2.1, hk.1.1.2.2⟩⟩)))⟩; have T : Aside0 (Kd.R (Kd.int .i64) 3 U4 w.heap.size (fun k_ => some k_ ≠ (v329 : Value).ownBlock ∧ some k_ ≠ (.slice F3 E.length G3 : Value).ownBlock ∧ some k_ ≠ (.slice I3 D.length J3 : Value).ownBlock) (.slice D3 I.length E3) I) := ⟨(by rw [hw]; exact (Kd.R_mono (zlR (Kd.R_types (Kd.R_types A.out a.out (by decide)) z.out (by decide))) (fun _ hk => ⟨hk.1.1.1, ⟨hk.1.1.2.1, hk.1.1.2.2⟩⟩)))⟩; have U : Aside0 (Kd.R (Kd.int .i64) 3 U4 w.heap.size (fun k_ => some k_ ≠ (v329 : Value).ownBlock ∧ some k_ ≠ (.slice D3 I.length E3 : Value).ownBlock ∧ some k_ ≠ (.slice I3 D.length J3 : Value).ownBlock) (.slice F3 E.length G3) E) := ⟨(by rw [hw]; exact (Kd.R_mono (zlR (Kd.R_types (Kd.R_types q.out a.out (by decide)) z.out (by decide))) (fun _ hk => ⟨hk.1.1.1, ⟨hk.1.1.2.1, hk.1.1.2.2⟩⟩)))⟩; have X : Aside0 (Kd.R (Kd.int .i64) 3 U4 w.heap.size (fun k_ => some k_ ≠ (v329 : Value).ownBlock ∧ some k_ ≠ (.slice D3 I.length E3 : Value).ownBlock ∧ some k_ ≠ (.slice F3 E.length G3 : Value).ownBlock) (.slice I3 D.length J3) D) := ⟨(by rw [hw]; exact (Kd.R_mono (zlR (Kd.R_types (Kd.R_types B.out a.out (by decide)) z.out (by decide))) (fun _ hk => ⟨hk.1.1.1, ⟨hk.1.1.2.1, hk.1.1.2.2⟩⟩)))⟩; have d0 : Aside0 (U4.heap[i1]? = some (.cells #[.int .i64 c0, .int .i64 p0, .int .i64 q0, .int .i64 t0, .int .i64 x0, .int .i64 j0, .int .i64 m0, .int .i64 n0, .int .i64 A0, .int .i64 y0, .int .i64 b0] 35 (0, 0))) := ⟨(by rw [hw]; exact (zV y))⟩; have e0 : Aside0 (U4.heap[I0]? = some (.cells #[.slice B1 L.length a1, .slice t1 g0.length b1, .slice x1 i0.length d1, .int .i64 C0, .int .i64 B0, .int .i64 J0] 30 (0, 0))) := ⟨(by rw [hw]; exact (zV l))⟩; have f0 : Aside0 (U4.heap[M]? = some (.cells #[.slice D3 I.length E3, .slice F3 E.length G3, .slice I3 D.length J3, .int .i64 (wrap64 (o0 + 1)), .int .i64 D0, .int .i64 ji251] 30 (0, 0))) := ⟨(by rw [hw]; exact (zW z))⟩; have E0 : Aside0 (U4.heap[J]? = some (.cells #[.slice D3 I.length E3, .slice F3 E.length G3, .slice I3 D.length J3, .int .i64 (wrap64 (o0 + 1)), .int .i64 D0, .int .i64 ji251] 30 (0, 0))) := ⟨(by rw [hw]; exact (zW a))⟩; have G0 : Aside0 (Below w.heap.size w U4) := ⟨(by rw [hw]; exact zB)⟩; revert O T U X d0 e0 f0 E0 G0; clear hw a0 A q B y l z a HB; intro a0 A q B y l z a HB))
       refine bodyPost_ret (results_ct rfl _ _ M 30 #[.slice D3 I.length E3, .slice F3 E.length G3, .slice I3 D.length J3, .int .i64 (wrap64 (o0 + 1)), .int .i64 D0, .int .i64 ji251] (0, 0) _ rfl (zM z) Try.underlying30 rfl (by kernel_rfl)) rfl ?_
       exact ⟨_, _, _, by first | rfl | (simp [errW_none, errW_some] <;> rfl) | (simp only [← hji251]; first | rfl | (simp [errW_none, errW_some] <;> rfl)) | (simp [*, errW_none, errW_some] <;> rfl), Kd.R_mono (zlR A.out) (fun _ hk => ⟨hk.2.1, hk.2.2⟩), Kd.R_mono (zlR q.out) (fun _ hk => ⟨hk.2.1, hk.2.2⟩), Kd.R_mono (zlR B.out) (fun _ hk => ⟨hk.2.1, hk.2.2⟩), zB⟩
     rw [if_pos C6] at H
     have c7b := z1 C6
     clear C6
     by_cases D6 : (ji251) ≥ b0
     rotate_left
     · rw [if_neg D6] at H
       have c7c := z2 D6
       clear D6
       simp only [Option.some.injEq, Prod.mk.injEq] at H
       obtain ⟨rfl, rfl, rfl, rfl, rfl, rfl, rfl⟩ := H
       have f7o := l1.out
       have f7p := j1.out
       have f7q := E1.out
       have f7s := D1.out
       have f7t := G1.out
       have f7u := F1.out
       have e4q : wr.cell? ⟨J, 0, none⟩ = some (u327000) := zy a 0
       have e4s : wr.cell? ⟨J, 1, none⟩ = some (u327001) := zy a 1
       have e4t : wr.cell? ⟨J, 2, none⟩ = some (u327002) := zy a 2
       have e4u : wr.cell? ⟨J, 3, none⟩ = some (.int .i64 (wrap64 (o0 + 1))) := zy a 3
       have e4x : wr.cell? ⟨J, 4, none⟩ = some (.int .i64 D0) := zy a 4
       have e4y : wr.cell? ⟨J, 5, none⟩ = some (.int .i64 O0) := zy a 5
       have e4z := zf a.out 0
       have e5a := zf a.out 1
       have e5b := zf a.out 2
       have e5c := zf a.out 3
       have e5d := zf a.out 4
       have e5e := zf a.out 5
       have f7x := R0.out
       have f7y := S0.out
       have f7z := T0.out
       have f8a := U0.out
       obtain ⟨e5f, e5g, e5j, e5l, e5m, e5n, e5o, e5p, e5q, e5s, d0m, e5t, e5u, e5x, e5y, e5z, e6a, e6b, e6c, e6d, e6e, d0n⟩ := zc11 y
       obtain ⟨L3, M3, c8t⟩ := Kd.R_slice A.out
       subst c8t
       have f8b := X0.out
       have f8c := V0.out
       obtain ⟨e6f, e6g, e6j, e6l, e6m, e6n, e6o, e6p, e6q, e6s, e6t, e6u⟩ := zc6 z
       obtain ⟨N3, O3, c8u⟩ := Kd.R_slice q.out
       subst c8u
       obtain ⟨R3, S3, c8x⟩ := Kd.R_slice B.out
       subst c8x
       go_wp2_with (first | ((with_reducible refine gate_store (t := 30) (p := 6) rfl ?_); refine store_event (t := 30) (p := 6) (v := ?vo_w280) (w1 := (((((((wr.setCell ⟨J, 5, none⟩ (.int .i64 ji251)).setCell ⟨M, 0, none⟩ (.slice L3 I.length M3)).setCell ⟨M, 1, none⟩ (.slice N3 E.length O3)).setCell ⟨M, 2, none⟩ (.slice R3 D.length S3)).setCell ⟨M, 3, none⟩ (.int .i64 (wrap64 (o0 + 1)))).setCell ⟨M, 4, none⟩ (.int .i64 D0)).setCell ⟨M, 5, none⟩ (.int .i64 ji251))) ?hg ?ho ?hn ?hr ?_; (case ho => rfl); (case hg => rfl); (case hn => rfl); (case hr => first | (go_simp; done) | (go_simp; rfl)); intro V4 hw; have O : Aside0 (Kd.R (Kd.int .i64) 3 V4 w.heap.size (fun k_ => some k_ ≠ (.slice L3 I.length M3 : Value).ownBlock ∧ some k_ ≠ (.slice N3 E.length O3 : Value).ownBlock ∧ some k_ ≠ (.slice R3 D.length S3 : Value).ownBlock) v329 F0) := ⟨(by rw [hw]; exact (Kd.R_mono (zlR (Kd.R_types (Kd.R_types a0.out a.out (by decide)) z.out (by decide))) (fun _ hk => ⟨hk.1.1.1, ⟨hk.1.1.2.1, hk.1.1.2.2⟩⟩)))⟩; have T : Aside0 (Kd.R (Kd.int .i64) 3 V4 w.heap.size (fun k_ => some k_ ≠ (v329 : Value).ownBlock ∧ some k_ ≠ (.slice N3 E.length O3 : Value).ownBlock ∧ some k_ ≠ (.slice R3 D.length S3 : Value).ownBlock) (.slice L3 I.length M3) I) := ⟨(by rw [hw]; exact (Kd.R_mono (zlR (Kd.R_types (Kd.R_types A.out a.out (by decide)) z.out (by decide))) (fun _ hk => ⟨hk.1.1.1, ⟨hk.1.1.2.1, hk.1.1.2.2⟩⟩)))⟩; have U : Aside0 (Kd.R (Kd.int .i64) 3 V4 w.heap.size (fun k_ => some k_ ≠ (v329 : Value).ownBlock ∧ some k_ ≠ (.slice L3 I.length M3 : Value).ownBlock ∧ some k_ ≠ (.slice R3 D.length S3 : Value).ownBlock) (.slice N3 E.length O3) E) := ⟨(by rw [hw]; exact (Kd.R_mono (zlR (Kd.R_types (Kd.R_types q.out a.out (by decide)) z.out (by decide))) (fun _ hk => ⟨hk.1.1.1, ⟨hk.1.1.2.1, hk.1.1.2.2⟩⟩)))⟩; have X : Aside0 (Kd.R (Kd.int .i64) 3 V4 w.heap.size (fun k_ => some k_ ≠ (v329 : Value).ownBlock ∧ some k_ ≠ (.slice L3 I.length M3 : Value).ownBlock ∧ some k_ ≠ (.slice N3 E.length O3 : Value).ownBlock) (.slice R3 D.length S3) D) := ⟨(by rw [hw]; exact (Kd.R_mono (zlR (Kd.R_types (Kd.R_types B.out a.out (by decide)) z.out (by decide))) (fun _ hk => ⟨hk.1.1.1, ⟨hk.1.1.2.1, hk.1.1.2.2⟩⟩)))⟩; have d0 : Aside0 (V4.heap[i1]? = some (.cells #[.int .i64 c0, .int .i64 p0, .int .i64 q0, .int .i64 t0, .int .i64 x0, .int .i64 j0, .int .i64 m0, .int .i64 n0, .int .i64 A0, .int .i64 y0, .int .i64 b0] 35 (0, 0))) := ⟨(by rw [hw]; exact (zV y))⟩; have e0 : Aside0 (V4.heap[I0]? = some (.cells #[.slice B1 L.length a1, .slice t1 g0.length b1, .slice x1 i0.length d1, .int .i64 C0, .int .i64 B0, .int .i64 J0] 30 (0, 0))) := ⟨(by rw [hw]; exact (zV l))⟩; have f0 : Aside0 (V4.heap[M]? = some (.cells #[.slice L3 I.length M3, .slice N3 E.length O3, .slice R3 D.length S3, .int .i64 (wrap64 (o0 + 1)), .int .i64 D0, .int .i64 ji251] 30 (0, 0))) := ⟨(by rw [hw]; exact (zW z))⟩; have E0 : Aside0 (V4.heap[J]? = some (.cells #[.slice L3 I.length M3, .slice N3 E.length O3, .slice R3 D.length S3, .int .i64 (wrap64 (o0 + 1)), .int .i64 D0, .int .i64 ji251] 30 (0, 0))) := ⟨(by rw [hw]; exact (zW a))⟩; have G0 : Aside0 (Below w.heap.size w V4) := ⟨(by rw [hw]; exact zB)⟩; revert O T U X d0 e0 f0 E0 G0; clear hw a0 A q B y l z a HB; intro a0 A q B y l z a HB))
       refine bodyPost_ret (results_ct rfl _ _ M 30 #[.slice L3 I.length M3, .slice N3 E.length O3, .slice R3 D.length S3, .int .i64 (wrap64 (o0 + 1)), .int .i64 D0, .int .i64 ji251] (0, 0) _ rfl (zM z) Try.underlying30 rfl (by kernel_rfl)) rfl ?_
       exact ⟨_, _, _, by first | rfl | (simp [errW_none, errW_some] <;> rfl) | (simp only [← hji251]; first | rfl | (simp [errW_none, errW_some] <;> rfl)) | (simp [*, errW_none, errW_some] <;> rfl), Kd.R_mono (zlR A.out) (fun _ hk => ⟨hk.2.1, hk.2.2⟩), Kd.R_mono (zlR q.out) (fun _ hk => ⟨hk.2.1, hk.2.2⟩), Kd.R_mono (zlR B.out) (fun _ hk => ⟨hk.2.1, hk.2.2⟩), zB⟩
     rw [if_pos D6] at H
     have c7c := z1 D6
     clear D6
     obtain ⟨ji254, hji254⟩ : ∃ j_ : Int, (mn (wrap64 (2 * D0)) 65536) = j_ := ⟨_, rfl⟩
     replace H : (some (I, E, D, (wrap64 (o0 + 1)), ji254, 0, true)) = some (r1, r2, r3, r4, r5, r6, r7) := by first | (rw [hji254] at H; exact H) | (simp only [hji254] at H ⊢; exact H)
     have hji254_ : (if 65536 < (wrap64 (2 * D0)) then 65536 else (wrap64 (2 * D0))) = ji254 := hji254
     simp only [Option.some.injEq, Prod.mk.injEq] at H
     obtain ⟨rfl, rfl, rfl, rfl, rfl, rfl, rfl⟩ := H
     have f8d := l1.out
     have f8e := j1.out
     have f8f := E1.out
     have f8g := D1.out
     have f8j := G1.out
     have f8l := F1.out
     have e6x : wr.cell? ⟨J, 0, none⟩ = some (u327000) := zy a 0
     have e6y : wr.cell? ⟨J, 1, none⟩ = some (u327001) := zy a 1
     have e6z : wr.cell? ⟨J, 2, none⟩ = some (u327002) := zy a 2
     have e7a : wr.cell? ⟨J, 3, none⟩ = some (.int .i64 (wrap64 (o0 + 1))) := zy a 3
     have e7b : wr.cell? ⟨J, 4, none⟩ = some (.int .i64 D0) := zy a 4
     have e7c : wr.cell? ⟨J, 5, none⟩ = some (.int .i64 O0) := zy a 5
     have e7d := zf a.out 0
     have e7e := zf a.out 1
     have e7f := zf a.out 2
     have e7g := zf a.out 3
     have e7j := zf a.out 4
     have e7l := zf a.out 5
     have f8m := R0.out
     have f8n := S0.out
     have f8o := T0.out
     have f8p := U0.out
     obtain ⟨e7m, e7n, e7o, e7p, e7q, e7s, e7t, e7u, e7x, e7y, d0o, e7z, e8a, e8b, e8c, e8d, e8e, e8f, e8g, e8j, e8l, d0p⟩ := zc11 y
     obtain ⟨T3, U3, c8y⟩ := Kd.R_slice A.out
     subst c8y
     have f8q := X0.out
     have f8s := V0.out
     obtain ⟨e8m, e8n, e8o, e8p, e8q, e8s, e8t, e8u, e8x, e8y, e8z, e9a⟩ := zc6 z
     obtain ⟨V3, X3, c8z⟩ := Kd.R_slice q.out
     subst c8z
     obtain ⟨a4, b4, c9a⟩ := Kd.R_slice B.out
     subst c9a
     go_wp2_with (first | ((with_reducible refine gate_store (t := 30) (p := 6) rfl ?_); refine store_event (t := 30) (p := 6) (v := ?vo_w267) (w1 := (((((((((wr.setCell ⟨J, 5, none⟩ (.int .i64 ji251)).setCell ⟨J, 4, none⟩ (.int .i64 ji254)).setCell ⟨J, 5, none⟩ (.int .i64 0)).setCell ⟨M, 0, none⟩ (.slice T3 I.length U3)).setCell ⟨M, 1, none⟩ (.slice V3 E.length X3)).setCell ⟨M, 2, none⟩ (.slice a4 D.length b4)).setCell ⟨M, 3, none⟩ (.int .i64 (wrap64 (o0 + 1)))).setCell ⟨M, 4, none⟩ (.int .i64 ji254)).setCell ⟨M, 5, none⟩ (.int .i64 0))) ?hg ?ho ?hn ?hr ?_; (case ho => rfl); (case hg => rfl); (case hn => rfl); (case hr => first | (go_simp; done) | (go_simp; rfl)); intro X4 hw; have O : Aside0 (Kd.R (Kd.int .i64) 3 X4 w.heap.size (fun k_ => some k_ ≠ (.slice T3 I.length U3 : Value).ownBlock ∧ some k_ ≠ (.slice V3 E.length X3 : Value).ownBlock ∧ some k_ ≠ (.slice a4 D.length b4 : Value).ownBlock) v329 F0) := ⟨(by rw [hw]; exact (Kd.R_mono (zlR (Kd.R_types (Kd.R_types a0.out a.out (by decide)) z.out (by decide))) (fun _ hk => ⟨hk.1.1.1, ⟨hk.1.1.2.1, hk.1.1.2.2⟩⟩)))⟩; have T : Aside0 (Kd.R (Kd.int .i64) 3 X4 w.heap.size (fun k_ => some k_ ≠ (v329 : Value).ownBlock ∧ some k_ ≠ (.slice V3 E.length X3 : Value).ownBlock ∧ some k_ ≠ (.slice a4 D.length b4 : Value).ownBlock) (.slice T3 I.length U3) I) := ⟨(by rw [hw]; exact (Kd.R_mono (zlR (Kd.R_types (Kd.R_types A.out a.out (by decide)) z.out (by decide))) (fun _ hk => ⟨hk.1.1.1, ⟨hk.1.1.2.1, hk.1.1.2.2⟩⟩)))⟩; have U : Aside0 (Kd.R (Kd.int .i64) 3 X4 w.heap.size (fun k_ => some k_ ≠ (v329 : Value).ownBlock ∧ some k_ ≠ (.slice T3 I.length U3 : Value).ownBlock ∧ some k_ ≠ (.slice a4 D.length b4 : Value).ownBlock) (.slice V3 E.length X3) E) := ⟨(by rw [hw]; exact (Kd.R_mono (zlR (Kd.R_types (Kd.R_types q.out a.out (by decide)) z.out (by decide))) (fun _ hk => ⟨hk.1.1.1, ⟨hk.1.1.2.1, hk.1.1.2.2⟩⟩)))⟩; have X : Aside0 (Kd.R (Kd.int .i64) 3 X4 w.heap.size (fun k_ => some k_ ≠ (v329 : Value).ownBlock ∧ some k_ ≠ (.slice T3 I.length U3 : Value).ownBlock ∧ some k_ ≠ (.slice V3 E.length X3 : Value).ownBlock) (.slice a4 D.length b4) D) := ⟨(by rw [hw]; exact (Kd.R_mono (zlR (Kd.R_types (Kd.R_types B.out a.out (by decide)) z.out (by decide))) (fun _ hk => ⟨hk.1.1.1, ⟨hk.1.1.2.1, hk.1.1.2.2⟩⟩)))⟩; have d0 : Aside0 (X4.heap[i1]? = some (.cells #[.int .i64 c0, .int .i64 p0, .int .i64 q0, .int .i64 t0, .int .i64 x0, .int .i64 j0, .int .i64 m0, .int .i64 n0, .int .i64 A0, .int .i64 y0, .int .i64 b0] 35 (0, 0))) := ⟨(by rw [hw]; exact (zV y))⟩; have e0 : Aside0 (X4.heap[I0]? = some (.cells #[.slice B1 L.length a1, .slice t1 g0.length b1, .slice x1 i0.length d1, .int .i64 C0, .int .i64 B0, .int .i64 J0] 30 (0, 0))) := ⟨(by rw [hw]; exact (zV l))⟩; have f0 : Aside0 (X4.heap[M]? = some (.cells #[.slice T3 I.length U3, .slice V3 E.length X3, .slice a4 D.length b4, .int .i64 (wrap64 (o0 + 1)), .int .i64 ji254, .int .i64 0] 30 (0, 0))) := ⟨(by rw [hw]; exact (zW z))⟩; have E0 : Aside0 (X4.heap[J]? = some (.cells #[.slice T3 I.length U3, .slice V3 E.length X3, .slice a4 D.length b4, .int .i64 (wrap64 (o0 + 1)), .int .i64 ji254, .int .i64 0] 30 (0, 0))) := ⟨(by rw [hw]; exact (zW a))⟩; have G0 : Aside0 (Below w.heap.size w X4) := ⟨(by rw [hw]; exact zB)⟩; revert O T U X d0 e0 f0 E0 G0; clear hw a0 A q B y l z a HB; intro a0 A q B y l z a HB))
     refine bodyPost_ret (results_ct rfl _ _ M 30 #[.slice T3 I.length U3, .slice V3 E.length X3, .slice a4 D.length b4, .int .i64 (wrap64 (o0 + 1)), .int .i64 ji254, .int .i64 0] (0, 0) _ rfl (zM z) Try.underlying30 rfl (by kernel_rfl)) rfl ?_
     exact ⟨_, _, _, by first | rfl | (simp [errW_none, errW_some] <;> rfl) | (simp only [← hji251, ← hji254]; first | rfl | (simp [errW_none, errW_some] <;> rfl)) | (simp [*, errW_none, errW_some] <;> rfl), Kd.R_mono (zlR A.out) (fun _ hk => ⟨hk.2.1, hk.2.2⟩), Kd.R_mono (zlR q.out) (fun _ hk => ⟨hk.2.1, hk.2.2⟩), Kd.R_mono (zlR B.out) (fun _ hk => ⟨hk.2.1, hk.2.2⟩), zB⟩
   rw [if_pos B6] at H
   have c7a := z1 B6
   clear B6
   by_cases A7 : 0 ≤ u
   rotate_left
   · rw [if_neg A7] at H
     exact absurd H (by simp)
   rw [if_pos A7] at H
   have f8t := z1 A7
   clear A7
   by_cases B7 : u < (L.length : Int)
   rotate_left
   · rw [if_neg B7] at H
     exact absurd H (by simp)
   rw [if_pos B7] at H
   have f8u := z1 B7
   clear B7
   by_cases E6 : A0 > 0
   rotate_left
   · rw [if_neg E6] at H
     have c7d := z2 E6
     clear E6
     by_cases C7 : u < (F0.length : Int)
     rotate_left
     · rw [if_neg C7] at H
       exact absurd H (by simp)
     rw [if_pos C7] at H
     have f8x := z1 C7
     clear C7
     by_cases D7 : u < (g0.length : Int)
     rotate_left
     · rw [if_neg D7] at H
       exact absurd H (by simp)
     rw [if_pos D7] at H
     have f8y := z1 D7
     clear D7
     by_cases E7 : u < (i0.length : Int)
     rotate_left
     · rw [if_neg E7] at H
       exact absurd H (by simp)
     rw [if_pos E7] at H
     have f8z := z1 E7
     clear E7
     replace H := z6 H
     obtain ⟨⟨d3, n1, y1⟩, b3s, H⟩ := H
     replace H : (if u < (E.length : Int) then (if u < (D.length : Int) then ((impl_bring_int.f d3 (-68719476736) 68719476736).bind fun U1 => (if u < (I.length : Int) then (impl_StepOpt.l0 k1 F0 L1 L (L.length : Int) (wrap64 (u + 1)) c0 p0 q0 t0 x0 j0 m0 n0 A0 y0 b0 L g0 i0 C0 B0 J0 (I.set (u : Int).toNat U1) (E.set (u : Int).toNat n1) (D.set (u : Int).toNat y1) (wrap64 (o0 + 1)) D0 O0) else (none))) else (none)) else (none)) = some (r1, r2, r3, r4, r5, r6, r7) := H
     have x7 := zK b3s
     clear b3s
     by_cases F7 : u < (E.length : Int)
     rotate_left
     · rw [if_neg F7] at H
       exact absurd H (by simp)
     rw [if_pos F7] at H
     have f9a := z1 F7
     clear F7
     obtain ⟨B3, O2⟩ : ∃ y_ : List Int, y_ = (E.set (u : Int).toNat n1) := ⟨_, rfl⟩
     replace H : (if u < (D.length : Int) then ((impl_bring_int.f d3 (-68719476736) 68719476736).bind fun U1 => (if u < (I.length : Int) then (impl_StepOpt.l0 k1 F0 L1 L (L.length : Int) (wrap64 (u + 1)) c0 p0 q0 t0 x0 j0 m0 n0 A0 y0 b0 L g0 i0 C0 B0 J0 (I.set (u : Int).toNat U1) B3 (D.set (u : Int).toNat y1) (wrap64 (o0 + 1)) D0 O0) else (none))) else (none)) = some (r1, r2, r3, r4, r5, r6, r7) := by first | (rw [O2]; with_reducible exact H) | (have m1 := (Option.bind_some _ _).symm.trans H; rw [O2]; with_reducible exact m1) | (have m1 := (Option.bind_some _ _).symm.trans H; with_reducible exact m1) | with_reducible exact H | (rw [O2]; exact H) | exact H
     have Ny356 := zK O2
     clear O2
     by_cases G7 : u < (D.length : Int)
     rotate_left
     · rw [if_neg G7] at H
       exact absurd H (by simp)
     rw [if_pos G7] at H
     have f9b := z1 G7
     clear G7
     obtain ⟨a5, R2⟩ : ∃ y_ : List Int, y_ = (D.set (u : Int).toNat y1) := ⟨_, rfl⟩
     replace H : ((impl_bring_int.f d3 (-68719476736) 68719476736).bind fun U1 => (if u < (I.length : Int) then (impl_StepOpt.l0 k1 F0 L1 L (L.length : Int) (wrap64 (u + 1)) c0 p0 q0 t0 x0 j0 m0 n0 A0 y0 b0 L g0 i0 C0 B0 J0 (I.set (u : Int).toNat U1) B3 a5 (wrap64 (o0 + 1)) D0 O0) else (none))) = some (r1, r2, r3, r4, r5, r6, r7) := by first | (rw [R2]; with_reducible exact H) | (have m1 := (Option.bind_some _ _).symm.trans H; rw [R2]; with_reducible exact m1) | (have m1 := (Option.bind_some _ _).symm.trans H; with_reducible exact m1) | with_reducible exact H | (rw [R2]; exact H) | exact H
     have Ny357 := zK R2
     clear R2
     replace H := z6 H
     obtain ⟨U1, b3t, H⟩ := H
     have e9b := zK b3t
     clear b3t
     by_cases I7 : u < (I.length : Int)
     rotate_left
     · rw [if_neg I7] at H
       exact absurd H (by simp)
     rw [if_pos I7] at H
     have f9c := z1 I7
     clear I7
     obtain ⟨l7, T2⟩ : ∃ y_ : List Int, y_ = (I.set (u : Int).toNat U1) := ⟨_, rfl⟩
     replace H : (impl_StepOpt.l0 k1 F0 L1 L (L.length : Int) (wrap64 (u + 1)) c0 p0 q0 t0 x0 j0 m0 n0 A0 y0 b0 L g0 i0 C0 B0 J0 l7 B3 a5 (wrap64 (o0 + 1)) D0 O0) = some (r1, r2, r3, r4, r5, r6, r7) := by first | (rw [T2]; with_reducible exact H) | (have m1 := (Option.bind_some _ _).symm.trans H; rw [T2]; with_reducible exact m1) | (have m1 := (Option.bind_some _ _).symm.trans H; with_reducible exact m1) | with_reducible exact H | (rw [T2]; exact H) | exact H
     have Ny359 := zK T2
     clear T2
     have H' := zK H
     clear H
     have E2 : 0 ≤ (u : Int) := z3
     have F2 : u < (L.length : Int) := z3
     obtain ⟨V1, L5, M1⟩ := Kd.at_int f2.out u E2 F2
     cases L5
     (try replace M1 := zX HB M1)
     replace E2 := eq_true E2
     replace F2 := eq_true F2
     have f9d := R0.out
     have f9e := S0.out
     have f9f := T0.out
     have f9g := U0.out
     have f9j := j1.out
     have f9l := l1.out
     obtain ⟨e9c, e9d, e9e, e9f, e9g, e9j, e9l, e9m, e9n, e9o, d0q, e9p, e9q, e9s, e9t, e9u, e9x, e9y, e9z, f0a, f0b, d0s⟩ := zc11 y
     try go_wp2
     have O := zK (Kd.R_drew a0.out)
     have T := zK (Kd.R_drew A.out)
     have U := zK (Kd.R_drew q.out)
     have X := zK (Kd.R_drew B.out)
     have d0 := zK (zd y.out)
     have e0 := zK (zd l.out)
     have f0 := zK (zd z.out)
     have E0 := zK (zd a.out)
     have G0 := zK (ze HB.out)
     revert O T U X d0 e0 f0 E0 G0
     clear a0 A q B y l z a HB
     intro a0 A q B y l z a HB
     obtain ⟨g3m, I6, b3u⟩ := Kd.R_slice a0.out
     (first | subst b3u | (injection b3u with f1_ f2_ f3_; have f4_ := f1_.symm; have f5_ := f3_.symm; clear f1_ f2_ f3_; subst f4_; subst f5_))
     have M5 : 0 ≤ (u : Int) := z3
     have N5 : u < (F0.length : Int) := z3
     obtain ⟨U2, b1p, I4⟩ := Kd.at_int (Kd.R_reads' a0.out).2.2 u M5 N5
     cases b1p
     replace M5 := eq_true M5
     replace N5 := eq_true N5
     have O5 : 0 ≤ (u : Int) := z3
     have R5 : u < (g0.length : Int) := z3
     obtain ⟨b5, b1q, j2⟩ := Kd.at_int g2.out u O5 R5
     have e3 := j2
     cases b1q
     (try replace j2 := zX HB j2)
     replace O5 := eq_true O5
     replace R5 := eq_true R5
     have S5 : 0 ≤ (u : Int) := z3
     have T5 : u < (i0.length : Int) := z3
     obtain ⟨d5, b1s, m2⟩ := Kd.at_int i2.out u S5 T5
     have f3 := m2
     cases b1s
     (try replace m2 := zX HB m2)
     replace S5 := eq_true S5
     replace T5 := eq_true T5
     refine start_ (n := 36) (S := fun w' => w'.cell? ⟨J, 0, none⟩ = some (u327000) ∧ w'.cell? ⟨J, 1, none⟩ = some (u327001) ∧ w'.cell? ⟨J, 2, none⟩ = some (u327002) ∧ w'.cell? ⟨J, 3, none⟩ = some (.int .i64 (wrap64 (o0 + 1))) ∧ w'.cell? ⟨J, 4, none⟩ = some (.int .i64 D0) ∧ w'.cell? ⟨J, 5, none⟩ = some (.int .i64 O0) ∧ w'.cell? ⟨I0, 0, none⟩ = some (.slice (some V1) L.length a1) ∧ w'.cell? ⟨I0, 1, none⟩ = some (.slice (some b5) g0.length b1) ∧ w'.cell? ⟨I0, 2, none⟩ = some (.slice (some d5) i0.length d1) ∧ w'.cell? ⟨I0, 3, none⟩ = some (.int .i64 C0) ∧ w'.cell? ⟨I0, 4, none⟩ = some (.int .i64 B0) ∧ w'.cell? ⟨I0, 5, none⟩ = some (.int .i64 J0) ∧ w'.cell? (U2.add (u).toNat) = some (.int .i64 (rd F0 u)) ∧ w'.cell? (b5.add (u).toNat) = some (.int .i64 (rd g0 u)) ∧ w'.cell? (d5.add (u).toNat) = some (.int .i64 (rd i0 u))) (ds := [35]) (bl 36 0) (by kernel_rfl) rfl (by kernel_rfl) ⟨zy a 0, zy a 1, zy a 2, zy a 3, zy a 4, zy a 5, zy l 0, zy l 1, zy l 2, zy l 3, zy l 4, zy l 5, I4, (zX HB e3:), (zX HB f3:)⟩ (fun hHeld => ?_); refine with_tabW impl_StepOpt.tab19 impl_StepOpt.bits19 (fun HT_ HW_ => ?_)
     generalize wr.drew = g8a at a0 A q B y l z a HB I4 j2 m2 hHeld ⊢
     refine zP 0 92 (bl 36 1) HT_ ?_
     refine zP 2 94 (bl 36 5) HT_ ?_
     refine zP 3 95 (bl 36 13) HT_ ?_
     refine zP 5 97 (bl 36 45) HT_ ?_
     refine zP 6 98 (bl 36 109) HT_ ?_
     refine zP 7 99 (bl 36 237) HT_ ?_
     refine zP 8 100 (bl 36 493) HT_ ?_
     refine zP 9 101 (bl 36 1005) HT_ ?_
     refine zP 10 102 (bl 36 2029) HT_ ?_
     refine zP 12 104 (bl 36 6125) HT_ ?_
     refine zP 13 105 (bl 36 14317) HT_ ?_
     refine zP 15 107 (bl 36 47085) HT_ ?_
     refine zP 18 110 (bl 36 309229) HT_ ?_
     refine zP 20 112 (bl 36 1357805) HT_ ?_
     refine zP 23 115 (bl 36 9746413) HT_ ?_
     refine zP 24 116 (bl 36 26523629) HT_ ?_ (hr := by intro w'; go_simp; rw [StepP.nilA]; rfl)
     refine zP 25 117 (bl 36 60078061) HT_ ?_
     refine zT 1 93 (bl 36 60078063) rfl rfl HT_ HW_ hHeld (by rintro w' ⟨s0, s1, s2, s3, s4, s5, s6, s7, s8, s9, N1, O1, R1, S1, T1⟩; go_simp; with_reducible rfl) ?_
     refine zT 4 96 (bl 36 60078079) rfl rfl HT_ HW_ hHeld (by rintro w' ⟨s0, s1, s2, s3, s4, s5, s6, s7, s8, s9, N1, O1, R1, S1, T1⟩; go_simp; with_reducible rfl) ?_
     refine zT 11 103 (bl 36 60080127) rfl rfl HT_ HW_ hHeld (by rintro w' ⟨s0, s1, s2, s3, s4, s5, s6, s7, s8, s9, N1, O1, R1, S1, T1⟩; go_simp; with_reducible rfl) ?_
     refine zT 14 106 (bl 36 60096511) rfl rfl HT_ HW_ hHeld (by rintro w' ⟨s0, s1, s2, s3, s4, s5, s6, s7, s8, s9, N1, O1, R1, S1, T1⟩; go_simp; with_reducible rfl) ?_
     refine zP 16 108 (bl 36 60162047) HT_ ?_
     refine zT 17 109 (bl 36 60293119) rfl rfl HT_ HW_ hHeld (by rintro w' ⟨s0, s1, s2, s3, s4, s5, s6, s7, s8, s9, N1, O1, R1, S1, T1⟩; go_simp; with_reducible rfl) ?_
     refine zT 19 111 (bl 36 60817407) rfl rfl HT_ HW_ hHeld (by rintro w' ⟨s0, s1, s2, s3, s4, s5, s6, s7, s8, s9, N1, O1, R1, S1, T1⟩; go_simp; with_reducible rfl) ?_
     refine zP 21 113 (bl 36 62914559) HT_ ?_
     refine zT 22 114 (bl 36 67108863) rfl rfl HT_ HW_ hHeld (by rintro w' ⟨s0, s1, s2, s3, s4, s5, s6, s7, s8, s9, N1, O1, R1, S1, T1⟩; go_simp; with_reducible rfl) ?_
     refine one_ (i := 26) (N := some 118) (bl 36 134217727) rfl rfl (one_of HT_.out (by kernel_rfl)) (by decide) (fun K hK => ?_)
     refine call_ (StepP.moverN c0) #[StepP.moverX c0 j0 m0 n0, .int .i64 L1, .int .i64 (rd F0 u), .int .i64 (rd L u), .int .i64 (rd g0 u), .int .i64 (rd i0 u)] (by rfl) rfl (by first | exact StepP.inv c0 j0 m0 n0 _ _ _ _ _ _ | (unfold execOp; simp [resolve, Act.eval]; exact StepP.inv c0 j0 m0 n0 _ _ _ _ _ _)) ?_
     with_reducible refine (StepP.moved k1 c0 j0 m0 n0 L1 (rd F0 u) (rd L u) (rd g0 u) (rd i0 u) d3 n1 y1 _ (by with_unfolding_all exact x7.out)).mono ?_
     rintro e E4 ⟨rfl, hb⟩
     have e5 := (hb.cell (World.block_lt_of_cell? _ _ (hHeld.2.2.2.2.2.2.2.2.2.2.2.2.1))).trans (hHeld.2.2.2.2.2.2.2.2.2.2.2.2.1)
     refine ⟨_, rfl, ?_⟩
     have O := zK (Kd.R_below (zkR a0) hb)
     have T := zK (Kd.R_below (zkR A) hb)
     have U := zK (Kd.R_below (zkR q) hb)
     have X := zK (Kd.R_below (zkR B) hb)
     have d0 := z7 y hb
     have e0 := z7 l hb
     have f0 := z7 z hb
     have E0 := z7 a hb
     have G0 := z8 hb
     revert O T U X d0 e0 f0 E0 G0
     clear a0 A q B y l z a HB
     intro a0 A q B y l z a HB
     (try clear hb)
     (try clear hb2)
     (try clear hk)
     (try clear hi)
     have b1t : 0 ≤ (u : Int) := z3
     have b1u : (u : Int) < ((E.length : Int) : Int) := z3
     obtain ⟨go232, f5, b3x, b3y, gl232, cl232, HG232⟩ := Kd.R_form q.out (by omega)
     (first | cases b3x | (injection b3x with ea_ en_ ec_; (first | subst ea_ | (injection ea_ with ea_; subst ea_)); subst ec_; clear en_))
     have GB232 := zK b3y
     have GG232 := zK HG232
     clear b3y gl232 HG232
     obtain ⟨f3b, hf232_0⟩ := Kd.R_celln 0 q.out (u : Int) b1t b1u
     replace b1t := eq_true b1t
     replace b1u := eq_true b1u
     have HP245 := Kd.R_putn q.out (u : Int) n1
     rw [← Ny356.out] at HP245
     have HQ245 := zK HP245
     clear HP245
     have b1x : 0 ≤ (u : Int) := z3
     have b1y : (u : Int) < ((D.length : Int) : Int) := z3
     obtain ⟨go234, g5, b3z, b4a, gl234, cl234, HG234⟩ := Kd.R_form B.out (by omega)
     (first | cases b3z | (injection b3z with ea_ en_ ec_; (first | subst ea_ | (injection ea_ with ea_; subst ea_)); subst ec_; clear en_))
     have GB234 := zK b4a
     have GG234 := zK HG234
     clear b4a gl234 HG234
     obtain ⟨f3c, hf234_0⟩ := Kd.R_celln 0 (Kd.R_far (p := ⟨go232, (u : Int).toNat, none⟩) (Kd.R_mono B.out (fun k_ hk => (⟨hk, fun e_ => hk.2.2 (by rw [e_]; rfl)⟩ : _ ∧ k_ ≠ go232))) (fun _ hk => hk.2) (.int .i64 n1)) (u : Int) b1x b1y
     replace b1x := eq_true b1x
     replace b1y := eq_true b1y
     have HP246 := Kd.R_putn (Kd.R_far (p := ⟨go232, (u : Int).toNat, none⟩) (Kd.R_mono B.out (fun k_ hk => (⟨hk, fun e_ => hk.2.2 (by rw [e_]; rfl)⟩ : _ ∧ k_ ≠ go232))) (fun _ hk => hk.2) (.int .i64 n1)) (u : Int) y1
     rw [← Ny357.out] at HP246
     have HQ246 := zK HP246
     clear HP246
     refine hK.out _ _ ⟨zy a 0, zy a 1, zy a 2, zy a 3, zy a 4, zy a 5, zy l 0, zy l 1, zy l 2, zy l 3, zy l 4, zy l 5, e5, (zX HB e3:), (zX HB f3:)⟩ (fun hHeld => ?_)
     clear hK K
     refine zU 118 ?_
     refine zP 27 91 (bl 36 268435455) HT_ ?_
     refine zP 28 119 (bl 36 536870911) HT_ ?_
     refine zP 29 120 (bl 36 1073741823) HT_ ?_
     refine zP 30 121 (bl 36 2147483647) HT_ ?_
     refine zP 31 13 (bl 36 4294967295) HT_ ?_
     refine zP 32 122 (bl 36 8589934591) HT_ ?_
     refine one_ (i := 33) (N := none) (bl 36 17179869183) rfl rfl (one_of HT_.out (by kernel_rfl)) (by decide) (fun K hK => ?_)
     refine skip_ (w1 := ?_) (by rfl) rfl ?_ ?_
     rotate_left
     · go_simp
       rfl
     refine hK.out _ _ ⟨((cell_far (p := ⟨go232, u.toNat, none⟩) (fun e_ => Kd.R_ne q.out a.out (by decide) (congrArg some e_)) _).trans (hHeld.1)), ((cell_far (p := ⟨go232, u.toNat, none⟩) (fun e_ => Kd.R_ne q.out a.out (by decide) (congrArg some e_)) _).trans (hHeld.2.1)), ((cell_far (p := ⟨go232, u.toNat, none⟩) (fun e_ => Kd.R_ne q.out a.out (by decide) (congrArg some e_)) _).trans (hHeld.2.2.1)), ((cell_far (p := ⟨go232, u.toNat, none⟩) (fun e_ => Kd.R_ne q.out a.out (by decide) (congrArg some e_)) _).trans (hHeld.2.2.2.1)), ((cell_far (p := ⟨go232, u.toNat, none⟩) (fun e_ => Kd.R_ne q.out a.out (by decide) (congrArg some e_)) _).trans (hHeld.2.2.2.2.1)), ((cell_far (p := ⟨go232, u.toNat, none⟩) (fun e_ => Kd.R_ne q.out a.out (by decide) (congrArg some e_)) _).trans (hHeld.2.2.2.2.2.1)), ((cell_far (p := ⟨go232, u.toNat, none⟩) (fun e_ => Kd.R_ne q.out l.out (by decide) (congrArg some e_)) _).trans (hHeld.2.2.2.2.2.2.1)), ((cell_far (p := ⟨go232, u.toNat, none⟩) (fun e_ => Kd.R_ne q.out l.out (by decide) (congrArg some e_)) _).trans (hHeld.2.2.2.2.2.2.2.1)), ((cell_far (p := ⟨go232, u.toNat, none⟩) (fun e_ => Kd.R_ne q.out l.out (by decide) (congrArg some e_)) _).trans (hHeld.2.2.2.2.2.2.2.2.1)), ((cell_far (p := ⟨go232, u.toNat, none⟩) (fun e_ => Kd.R_ne q.out l.out (by decide) (congrArg some e_)) _).trans (hHeld.2.2.2.2.2.2.2.2.2.1)), ((cell_far (p := ⟨go232, u.toNat, none⟩) (fun e_ => Kd.R_ne q.out l.out (by decide) (congrArg some e_)) _).trans (hHeld.2.2.2.2.2.2.2.2.2.2.1)), ((cell_far (p := ⟨go232, u.toNat, none⟩) (fun e_ => Kd.R_ne q.out l.out (by decide) (congrArg some e_)) _).trans (hHeld.2.2.2.2.2.2.2.2.2.2.2.1)), ((cell_far (p := ⟨go232, u.toNat, none⟩) (by (try rw [add_block]); exact (Kd.own_blk (Kd.R_away a0.out (fun _ hk => fun e_ => (hk.2.1) (congrArg some e_))))) _).trans (hHeld.2.2.2.2.2.2.2.2.2.2.2.2.1)), ((cell_far (p := ⟨go232, u.toNat, none⟩) (Nat.ne_of_lt (Nat.lt_of_lt_of_le (by have := World.block_lt_of_cell? _ _ e3; first | rwa [add_block] at this | exact this) (Kd.R_base q.out _ rfl))) _).trans (hHeld.2.2.2.2.2.2.2.2.2.2.2.2.2.1)), ((cell_far (p := ⟨go232, u.toNat, none⟩) (Nat.ne_of_lt (Nat.lt_of_lt_of_le (by have := World.block_lt_of_cell? _ _ f3; first | rwa [add_block] at this | exact this) (Kd.R_base q.out _ rfl))) _).trans (hHeld.2.2.2.2.2.2.2.2.2.2.2.2.2.2))⟩ (fun hHeld => ?_)
     clear hK K
     refine zP 34 123 (bl 36 34359738367) HT_ ?_
     refine last_ (i := 35) (N := none) (bl 36 68719476735) rfl rfl (one_of HT_.out (by kernel_rfl)) (by decide) (fun K hK => ?_)
     refine skip_ (w1 := ?_) (by rfl) rfl ?_ ?_
     rotate_left
     · go_simp
       rfl
     refine hK.out _ _ ?_
     clear hK K
     refine done_ (done_of HT_.out (by kernel_rfl)) ?_
     try go_wp2
     have O : Aside0 (Kd.R (Kd.int .i64) 3 ((E4.setCell ⟨go232, (u : Int).toNat, none⟩ (.int .i64 n1)).setCell ⟨go234, (u : Int).toNat, none⟩ (.int .i64 y1)) w.heap.size (fun k_ => some k_ ≠ (u327000 : Value).ownBlock ∧ some k_ ≠ (.slice (some ⟨go232, 0, none⟩) E.length f5 : Value).ownBlock ∧ some k_ ≠ (.slice (some ⟨go234, 0, none⟩) D.length g5 : Value).ownBlock) (.slice (some U2) F0.length I6) F0) := ⟨Kd.R_mono (zlR (Kd.R_mono (Kd.R_mono a0.out (fun k_ hk => (⟨hk, fun e_ => hk.2.1 (by rw [e_]; rfl)⟩ : _ ∧ k_ ≠ go232))) (fun k_ hk => (⟨hk, fun e_ => hk.1.2.2 (by rw [e_]; rfl)⟩ : _ ∧ k_ ≠ go234)))) (fun _ hk => ⟨hk.1.1.1, ⟨hk.1.1.2.1, hk.1.1.2.2⟩⟩)⟩
     have T : Aside0 (Kd.R (Kd.int .i64) 3 ((E4.setCell ⟨go232, (u : Int).toNat, none⟩ (.int .i64 n1)).setCell ⟨go234, (u : Int).toNat, none⟩ (.int .i64 y1)) w.heap.size (fun k_ => some k_ ≠ (.slice (some U2) F0.length I6 : Value).ownBlock ∧ some k_ ≠ (.slice (some ⟨go232, 0, none⟩) E.length f5 : Value).ownBlock ∧ some k_ ≠ (.slice (some ⟨go234, 0, none⟩) D.length g5 : Value).ownBlock) u327000 I) := ⟨Kd.R_mono (zlR (Kd.R_mono (Kd.R_mono A.out (fun k_ hk => (⟨hk, fun e_ => hk.2.1 (by rw [e_]; rfl)⟩ : _ ∧ k_ ≠ go232))) (fun k_ hk => (⟨hk, fun e_ => hk.1.2.2 (by rw [e_]; rfl)⟩ : _ ∧ k_ ≠ go234)))) (fun _ hk => ⟨hk.1.1.1, ⟨hk.1.1.2.1, hk.1.1.2.2⟩⟩)⟩
     have U : Aside0 (Kd.R (Kd.int .i64) 3 ((E4.setCell ⟨go232, (u : Int).toNat, none⟩ (.int .i64 n1)).setCell ⟨go234, (u : Int).toNat, none⟩ (.int .i64 y1)) w.heap.size (fun k_ => some k_ ≠ (.slice (some U2) F0.length I6 : Value).ownBlock ∧ some k_ ≠ (u327000 : Value).ownBlock ∧ some k_ ≠ (.slice (some ⟨go234, 0, none⟩) D.length g5 : Value).ownBlock) (.slice (some ⟨go232, 0, none⟩) E.length f5) B3) := ⟨Kd.R_mono (zlR (Kd.R_mono HQ245.out (fun k_ hk => (⟨hk, fun e_ => hk.2.2 (by rw [e_]; rfl)⟩ : _ ∧ k_ ≠ go234)))) (fun _ hk => ⟨hk.1.1, ⟨hk.1.2.1, hk.1.2.2⟩⟩)⟩
     have X : Aside0 (Kd.R (Kd.int .i64) 3 ((E4.setCell ⟨go232, (u : Int).toNat, none⟩ (.int .i64 n1)).setCell ⟨go234, (u : Int).toNat, none⟩ (.int .i64 y1)) w.heap.size (fun k_ => some k_ ≠ (.slice (some U2) F0.length I6 : Value).ownBlock ∧ some k_ ≠ (u327000 : Value).ownBlock ∧ some k_ ≠ (.slice (some ⟨go232, 0, none⟩) E.length f5 : Value).ownBlock) (.slice (some ⟨go234, 0, none⟩) D.length g5) a5) := ⟨Kd.R_mono (zlR HQ246.out) (fun _ hk => ⟨hk.1.1, ⟨hk.1.2.1, hk.1.2.2⟩⟩)⟩
     have d0 : Aside0 (((E4.setCell ⟨go232, (u : Int).toNat, none⟩ (.int .i64 n1)).setCell ⟨go234, (u : Int).toNat, none⟩ (.int .i64 y1)).heap[i1]? = some (.cells #[.int .i64 c0, .int .i64 p0, .int .i64 q0, .int .i64 t0, .int .i64 x0, .int .i64 j0, .int .i64 m0, .int .i64 n0, .int .i64 A0, .int .i64 y0, .int .i64 b0] 35 (0, 0))) := ⟨by (with_reducible repeat (first | refine zn ?_ _ | refine zd ?_ | refine za ?_ _)); refine blk_far ?_ (by have h_ := Kd.R_ne B.out y.out (by decide); intro e_; exact h_ (by rw [e_]; rfl)) _; (with_reducible repeat (first | refine zn ?_ _ | refine zd ?_ | refine za ?_ _)); refine blk_far ?_ (by have h_ := Kd.R_ne q.out y.out (by decide); intro e_; exact h_ (by rw [e_]; rfl)) _; (with_reducible repeat (first | refine zn ?_ _ | refine zd ?_ | refine za ?_ _)); exact y.out⟩
     have e0 : Aside0 (((E4.setCell ⟨go232, (u : Int).toNat, none⟩ (.int .i64 n1)).setCell ⟨go234, (u : Int).toNat, none⟩ (.int .i64 y1)).heap[I0]? = some (.cells #[.slice (some V1) L.length a1, .slice (some b5) g0.length b1, .slice (some d5) i0.length d1, .int .i64 C0, .int .i64 B0, .int .i64 J0] 30 (0, 0))) := ⟨by (with_reducible repeat (first | refine zn ?_ _ | refine zd ?_ | refine za ?_ _)); refine blk_far ?_ (by have h_ := Kd.R_ne B.out l.out (by decide); intro e_; exact h_ (by rw [e_]; rfl)) _; (with_reducible repeat (first | refine zn ?_ _ | refine zd ?_ | refine za ?_ _)); refine blk_far ?_ (by have h_ := Kd.R_ne q.out l.out (by decide); intro e_; exact h_ (by rw [e_]; rfl)) _; (with_reducible repeat (first | refine zn ?_ _ | refine zd ?_ | refine za ?_ _)); exact l.out⟩
     have f0 : Aside0 (((E4.setCell ⟨go232, (u : Int).toNat, none⟩ (.int .i64 n1)).setCell ⟨go234, (u : Int).toNat, none⟩ (.int .i64 y1)).heap[M]? = some (.cells #[.slice none 0 0, .slice none 0 0, .slice none 0 0, .int .i64 0, .int .i64 0, .int .i64 0] 30 (0, 0))) := ⟨by (with_reducible repeat (first | refine zn ?_ _ | refine zd ?_ | refine za ?_ _)); refine blk_far ?_ (by have h_ := Kd.R_ne B.out z.out (by decide); intro e_; exact h_ (by rw [e_]; rfl)) _; (with_reducible repeat (first | refine zn ?_ _ | refine zd ?_ | refine za ?_ _)); refine blk_far ?_ (by have h_ := Kd.R_ne q.out z.out (by decide); intro e_; exact h_ (by rw [e_]; rfl)) _; (with_reducible repeat (first | refine zn ?_ _ | refine zd ?_ | refine za ?_ _)); exact z.out⟩
     have E0 : Aside0 (((E4.setCell ⟨go232, (u : Int).toNat, none⟩ (.int .i64 n1)).setCell ⟨go234, (u : Int).toNat, none⟩ (.int .i64 y1)).heap[J]? = some (.cells #[u327000, .slice (some ⟨go232, 0, none⟩) E.length f5, .slice (some ⟨go234, 0, none⟩) D.length g5, .int .i64 (wrap64 (o0 + 1)), .int .i64 D0, .int .i64 O0] 30 (0, 0))) := ⟨by (with_reducible repeat (first | refine zn ?_ _ | refine zd ?_ | refine za ?_ _)); refine blk_far ?_ (by have h_ := Kd.R_ne B.out a.out (by decide); intro e_; exact h_ (by rw [e_]; rfl)) _; (with_reducible repeat (first | refine zn ?_ _ | refine zd ?_ | refine za ?_ _)); refine blk_far ?_ (by have h_ := Kd.R_ne q.out a.out (by decide); intro e_; exact h_ (by rw [e_]; rfl)) _; (with_reducible repeat (first | refine zn ?_ _ | refine zd ?_ | refine za ?_ _)); exact a.out⟩
     have G0 : Aside0 (Below w.heap.size w ((E4.setCell ⟨go232, (u : Int).toNat, none⟩ (.int .i64 n1)).setCell ⟨go234, (u : Int).toNat, none⟩ (.int .i64 y1))) := ⟨by repeat (first | (with_reducible first | exact HB.out | apply zb | apply zw | apply ze | refine zs ?_ GB232.out | refine zs ?_ GB234.out | refine zs ?_ b2.out | refine zs ?_ d2.out | refine zs ?_ e2.out | refine zs ?_ p3.out) | exact HB.out)⟩
     (try clear a0)
     (try clear A)
     (try clear q)
     (try clear B)
     (try clear y)
     (try clear l)
     (try clear z)
     (try clear a)
     (try clear HB)
     generalize ((E4.setCell ⟨go232, (u : Int).toNat, none⟩ (.int .i64 n1)).setCell ⟨go234, (u : Int).toNat, none⟩ (.int .i64 y1)) = f0c at O T U X d0 e0 f0 E0 G0 ⊢
     revert O T U X d0 e0 f0 E0 G0
     intro a0 A q B y l z a HB
     have O := zK (Kd.R_drew a0.out)
     have T := zK (Kd.R_drew A.out)
     have U := zK (Kd.R_drew q.out)
     have X := zK (Kd.R_drew B.out)
     have d0 := zK (zd y.out)
     have e0 := zK (zd l.out)
     have f0 := zK (zd z.out)
     have E0 := zK (zd a.out)
     have G0 := zK (ze HB.out)
     revert O T U X d0 e0 f0 E0 G0
     clear a0 A q B y l z a HB
     intro a0 A q B y l z a HB
     refine start_ (n := 7) (S := fun w' => w'.cell? ⟨J, 0, none⟩ = some (u327000) ∧ w'.cell? ⟨J, 1, none⟩ = some (.slice (some ⟨go232, 0, none⟩) E.length f5) ∧ w'.cell? ⟨J, 2, none⟩ = some (.slice (some ⟨go234, 0, none⟩) D.length g5) ∧ w'.cell? ⟨J, 3, none⟩ = some (.int .i64 (wrap64 (o0 + 1))) ∧ w'.cell? ⟨J, 4, none⟩ = some (.int .i64 D0) ∧ w'.cell? ⟨J, 5, none⟩ = some (.int .i64 O0)) (ds := [6]) (bl 7 0) (by kernel_rfl) rfl (by kernel_rfl) ⟨zy a 0, zy a 1, zy a 2, zy a 3, zy a 4, zy a 5⟩ (fun hHeld => ?_)
     generalize f0c.drew = g8b at a0 A q B y l z a HB HQ245 HQ246 hHeld ⊢
     refine pure_ (i := 0) (N := some 124) (v := ?_) (a' := ?_) (bl 7 1) rfl rfl (by kernel_rfl) (fun _ _ _ h => h) (Or.inl ⟨by rfl, ?_⟩) ?_ ?_
     rotate_left
     · intro w'
       go_simp
       with_reducible rfl
     rotate_left
     · simp only [Act.put, zq1, zq2, zq3, i64_w, i32_w]
       rfl
     refine pure_ (i := 2) (N := some 126) (v := ?_) (a' := ?_) (bl 7 5) rfl rfl (by kernel_rfl) (fun _ _ _ h => h) (Or.inl ⟨by rfl, ?_⟩) ?_ ?_
     rotate_left
     · intro w'
       go_simp
       with_reducible rfl
     rotate_left
     · simp only [Act.put, zq1, zq2, zq3, i64_w, i32_w]
       rfl
     refine pure_ (i := 3) (N := some 127) (v := ?_) (a' := ?_) (bl 7 13) rfl rfl (by kernel_rfl) (fun _ _ _ h => h) (Or.inl ⟨by rfl, ?_⟩) ?_ ?_
     rotate_left
     · intro w'
       go_simp
       with_reducible rfl
     rotate_left
     · simp only [Act.put, zq1, zq2, zq3, i64_w, i32_w]
       rfl
     refine take_ (i := 1) (N := some 125) (v := ?_) (a' := ?_) (bl 7 15) rfl rfl (by kernel_rfl) (fun _ _ _ h => h) (Or.inl ⟨by rfl, ?_⟩) hHeld ?_ ?_
     rotate_left
     · rintro w' ⟨s0, s1, s2, s3, s4, s5⟩
       go_simp
       with_reducible rfl
     rotate_left
     · simp only [Act.put, zq1, zq2, zq3, i64_w, i32_w]
       rfl
     refine one_ (i := 4) (N := some 128) (bl 7 31) rfl rfl (by kernel_rfl) (by decide) (fun K hK => ?_)
     refine goes_ Try.func52 (by kernel_rfl) rfl #[.int .i64 d3, .int .i64 (-68719476736), .int .i64 68719476736] (by rfl) rfl rfl zL ?_
     with_reducible refine (impl_bring_int.calls d3 (-68719476736) 68719476736 U1 _ e9b.out).mono ?_
     rintro e g8c ⟨rfl, hb⟩
     refine ⟨_, rfl, ?_⟩
     have O := zK (Kd.R_below (zkR a0) hb)
     have T := zK (Kd.R_below (zkR A) hb)
     have U := zK (Kd.R_below (zkR q) hb)
     have X := zK (Kd.R_below (zkR B) hb)
     have d0 := z7 y hb
     have e0 := z7 l hb
     have f0 := z7 z hb
     have E0 := z7 a hb
     have G0 := z8 hb
     revert O T U X d0 e0 f0 E0 G0
     clear a0 A q B y l z a HB
     intro a0 A q B y l z a HB
     (try clear hb)
     (try clear hb2)
     (try clear hk)
     (try clear hi)
     have b1z : 0 ≤ (u : Int) := z3
     have b2a : (u : Int) < ((I.length : Int) : Int) := z3
     obtain ⟨go237, c9b, b4b, b4c, gl237, cl237, HG237⟩ := Kd.R_form A.out (by omega)
     (first | cases b4b | (injection b4b with ea_ en_ ec_; (first | subst ea_ | (injection ea_ with ea_; subst ea_)); subst ec_; clear en_))
     have GB237 := zK b4c
     have GG237 := zK HG237
     clear b4c gl237 HG237
     obtain ⟨f3d, hf237_0⟩ := Kd.R_celln 0 A.out (u : Int) b1z b2a
     replace b1z := eq_true b1z
     replace b2a := eq_true b2a
     have HP250 := Kd.R_putn A.out (u : Int) U1
     rw [← Ny359.out] at HP250
     have HQ250 := zK HP250
     clear HP250
     refine hK.out _ _ ⟨zy a 0, zy a 1, zy a 2, zy a 3, zy a 4, zy a 5⟩ (fun hHeld => ?_)
     clear hK K
     refine zU 128 ?_
     refine pure_ (i := 5) (N := some 129) (v := ?_) (a' := ?_) (bl 7 63) rfl rfl (by kernel_rfl) (fun _ _ _ h => h) (Or.inl ⟨by rfl, ?_⟩) ?_ ?_
     rotate_left
     · intro w'
       go_simp
       with_reducible rfl
     rotate_left
     · simp only [Act.put, zq1, zq2, zq3, i64_w, i32_w]
       rfl
     refine last_ (i := 6) (N := none) (bl 7 127) rfl rfl (by kernel_rfl) (by decide) (fun K hK => ?_)
     refine skip_ (w1 := ?_) (by rfl) rfl ?_ ?_
     rotate_left
     · go_simp
       rfl
     refine hK.out _ _ ?_
     clear hK K
     refine done_ (by kernel_rfl) ?_
     try go_wp2
     go_roundg k1
     case measure => have := x6.out; omega
     case rel => exact ⟨(F0), (wrap64 (u + 1)), (l7), (B3), (a5), (.slice (some ⟨go237, 0, none⟩) I.length c9b), (.slice (some ⟨go232, 0, none⟩) E.length f5), (.slice (some ⟨go234, 0, none⟩) D.length g5), zR, H', ⟨by have := x6.out; omega⟩, ⟨Kd.R_mono (zlR (Kd.R_mono a0.out (fun k_ hk => (⟨hk, fun e_ => hk.1 (by rw [e_]; rfl)⟩ : _ ∧ k_ ≠ go237)))) (fun _ hk => ⟨hk.1.1, ⟨hk.1.2.1, hk.1.2.2⟩⟩)⟩, ⟨zkR HQ250⟩, ⟨Kd.R_mono (zlR (Kd.R_mono q.out (fun k_ hk => (⟨hk, fun e_ => hk.2.1 (by rw [e_]; rfl)⟩ : _ ∧ k_ ≠ go237)))) (fun _ hk => ⟨hk.1.1, ⟨hk.1.2.1, hk.1.2.2⟩⟩)⟩, ⟨Kd.R_mono (zlR (Kd.R_mono B.out (fun k_ hk => (⟨hk, fun e_ => hk.2.1 (by rw [e_]; rfl)⟩ : _ ∧ k_ ≠ go237)))) (fun _ hk => ⟨hk.1.1, ⟨hk.1.2.1, hk.1.2.2⟩⟩)⟩, ⟨by (with_reducible repeat (first | refine zn ?_ _ | refine zd ?_ | refine za ?_ _)); refine blk_far ?_ (by have h_ := Kd.R_ne A.out y.out (by decide); intro e_; exact h_ (by rw [e_]; rfl)) _; (with_reducible repeat (first | refine zn ?_ _ | refine zd ?_ | refine za ?_ _)); exact y.out⟩, ⟨by (with_reducible repeat (first | refine zn ?_ _ | refine zd ?_ | refine za ?_ _)); refine blk_far ?_ (by have h_ := Kd.R_ne A.out l.out (by decide); intro e_; exact h_ (by rw [e_]; rfl)) _; (with_reducible repeat (first | refine zn ?_ _ | refine zd ?_ | refine za ?_ _)); exact l.out⟩, ⟨by (with_reducible repeat (first | refine zn ?_ _ | refine zd ?_ | refine za ?_ _)); refine blk_far ?_ (by have h_ := Kd.R_ne A.out z.out (by decide); intro e_; exact h_ (by rw [e_]; rfl)) _; (with_reducible repeat (first | refine zn ?_ _ | refine zd ?_ | refine za ?_ _)); exact z.out⟩, ⟨by (with_reducible repeat (first | refine zn ?_ _ | refine zd ?_ | refine za ?_ _)); refine blk_far ?_ (by have h_ := Kd.R_ne A.out a.out (by decide); intro e_; exact h_ (by rw [e_]; rfl)) _; (with_reducible repeat (first | refine zn ?_ _ | refine zd ?_ | refine za ?_ _)); exact a.out⟩, ⟨by repeat (first | (with_reducible first | exact HB.out | apply zb | apply zw | apply ze | refine zs ?_ GB237.out | refine zs ?_ b2.out | refine zs ?_ d2.out | refine zs ?_ e2.out | refine zs ?_ p3.out) | exact HB.out)⟩⟩
   rw [if_pos E6] at H
   have c7d := z1 E6
   clear E6
   replace H := z6 H
   obtain ⟨U5, b4d, H⟩ := H
   have f0d := zK b4d
   clear b4d
   replace H := z6 H
   obtain ⟨V5, b4e, H⟩ := H
   have f0e := zK b4e
   clear b4e
   replace H := z6 H
   obtain ⟨X5, b4f, H⟩ := H
   have f0f := zK b4f
   clear b4f
   by_cases J7 : u < (F0.length : Int)
   rotate_left
   · rw [if_neg J7] at H
     exact absurd H (by simp)
   rw [if_pos J7] at H
   have f9m := z1 J7
   clear J7
   by_cases L7 : u < (g0.length : Int)
   rotate_left
   · rw [if_neg L7] at H
     exact absurd H (by simp)
   rw [if_pos L7] at H
   have f9n := z1 L7
   clear L7
   by_cases M7 : u < (i0.length : Int)
   rotate_left
   · rw [if_neg M7] at H
     exact absurd H (by simp)
   rw [if_pos M7] at H
   have f9o := z1 M7
   clear M7
   replace H := z6 H
   obtain ⟨⟨m3, o1, A1⟩, b4g, H⟩ := H
   replace H : (if u < (E.length : Int) then (if u < (D.length : Int) then ((impl_bring_int.f m3 (-68719476736) 68719476736).bind fun X1 => (if u < (I.length : Int) then (impl_StepOpt.l0 k1 F0 L1 L (L.length : Int) (wrap64 (u + 1)) c0 p0 q0 t0 x0 j0 m0 n0 A0 y0 b0 L g0 i0 C0 B0 J0 (I.set (u : Int).toNat X1) (E.set (u : Int).toNat o1) (D.set (u : Int).toNat A1) (wrap64 (o0 + 1)) D0 O0) else (none))) else (none)) else (none)) = some (r1, r2, r3, r4, r5, r6, r7) := H
   have f0g := zK b4g
   clear b4g
   by_cases N7 : u < (E.length : Int)
   rotate_left
   · rw [if_neg N7] at H
     exact absurd H (by simp)
   rw [if_pos N7] at H
   have f9p := z1 N7
   clear N7
   obtain ⟨C3, V2⟩ : ∃ y_ : List Int, y_ = (E.set (u : Int).toNat o1) := ⟨_, rfl⟩
   replace H : (if u < (D.length : Int) then ((impl_bring_int.f m3 (-68719476736) 68719476736).bind fun X1 => (if u < (I.length : Int) then (impl_StepOpt.l0 k1 F0 L1 L (L.length : Int) (wrap64 (u + 1)) c0 p0 q0 t0 x0 j0 m0 n0 A0 y0 b0 L g0 i0 C0 B0 J0 (I.set (u : Int).toNat X1) C3 (D.set (u : Int).toNat A1) (wrap64 (o0 + 1)) D0 O0) else (none))) else (none)) = some (r1, r2, r3, r4, r5, r6, r7) := by first | (rw [V2]; with_reducible exact H) | (have m1 := (Option.bind_some _ _).symm.trans H; rw [V2]; with_reducible exact m1) | (have m1 := (Option.bind_some _ _).symm.trans H; with_reducible exact m1) | with_reducible exact H | (rw [V2]; exact H) | exact H
   have Ny346 := zK V2
   clear V2
   by_cases O7 : u < (D.length : Int)
   rotate_left
   · rw [if_neg O7] at H
     exact absurd H (by simp)
   rw [if_pos O7] at H
   have f9q := z1 O7
   clear O7
   obtain ⟨i5, X2⟩ : ∃ y_ : List Int, y_ = (D.set (u : Int).toNat A1) := ⟨_, rfl⟩
   replace H : ((impl_bring_int.f m3 (-68719476736) 68719476736).bind fun X1 => (if u < (I.length : Int) then (impl_StepOpt.l0 k1 F0 L1 L (L.length : Int) (wrap64 (u + 1)) c0 p0 q0 t0 x0 j0 m0 n0 A0 y0 b0 L g0 i0 C0 B0 J0 (I.set (u : Int).toNat X1) C3 i5 (wrap64 (o0 + 1)) D0 O0) else (none))) = some (r1, r2, r3, r4, r5, r6, r7) := by first | (rw [X2]; with_reducible exact H) | (have m1 := (Option.bind_some _ _).symm.trans H; rw [X2]; with_reducible exact m1) | (have m1 := (Option.bind_some _ _).symm.trans H; with_reducible exact m1) | with_reducible exact H | (rw [X2]; exact H) | exact H
   have Ny347 := zK X2
   clear X2
   replace H := z6 H
   obtain ⟨X1, b4j, H⟩ := H
   have f0j := zK b4j
   clear b4j
   by_cases R7 : u < (I.length : Int)
   rotate_left
   · rw [if_neg R7] at H
     exact absurd H (by simp)
   rw [if_pos R7] at H
   have f9s := z1 R7
   clear R7
   obtain ⟨m7, a3⟩ : ∃ y_ : List Int, y_ = (I.set (u : Int).toNat X1) := ⟨_, rfl⟩
   replace H : (impl_StepOpt.l0 k1 F0 L1 L (L.length : Int) (wrap64 (u + 1)) c0 p0 q0 t0 x0 j0 m0 n0 A0 y0 b0 L g0 i0 C0 B0 J0 m7 C3 i5 (wrap64 (o0 + 1)) D0 O0) = some (r1, r2, r3, r4, r5, r6, r7) := by first | (rw [a3]; with_reducible exact H) | (have m1 := (Option.bind_some _ _).symm.trans H; rw [a3]; with_reducible exact m1) | (have m1 := (Option.bind_some _ _).symm.trans H; with_reducible exact m1) | with_reducible exact H | (rw [a3]; exact H) | exact H
   have Ny349 := zK a3
   clear a3
   have H' := zK H
   clear H
   have E2 : 0 ≤ (u : Int) := z3
   have F2 : u < (L.length : Int) := z3
   obtain ⟨V1, L5, M1⟩ := Kd.at_int f2.out u E2 F2
   cases L5
   (try replace M1 := zX HB M1)
   replace E2 := eq_true E2
   replace F2 := eq_true F2
   have f9t := R0.out
   have f9u := S0.out
   have f9x := T0.out
   have f9y := U0.out
   have f9z := j1.out
   have g0a := l1.out
   obtain ⟨f0l, f0m, f0n, f0o, f0p, f0q, f0s, f0t, f0u, f0x, d0t, f0y, f0z, f1a, f1b, f1c, f1d, f1e, f1f, f1g, f1j, d0u⟩ := zc11 y
   try go_wp2_with (first | ((with_reducible refine gc 48 rfl ?_); refine zF 86 Try.func48 #[.int .i64 (wrap64 (A0 * (rd L u))), .int .i64 65536] rfl zL ?_; (with_reducible refine (impl_Near.calls (wrap64 (A0 * (rd L u))) 65536 U5 _ f0d.out).mono ?_); rintro e w' ⟨rfl, ⟨nd, rfl⟩⟩; refine ⟨_, rfl, ?_⟩; (try (rw [drewN_self wr]; generalize hq_ : World.drewN wr _ = wr; have O : Aside0 (Kd.R (Kd.int .i64) 3 wr w.heap.size (fun k_ => (some k_ ≠ (v329 : Value).ownBlock ∧ (some k_ ≠ (u327001 : Value).ownBlock ∧ some k_ ≠ (u327002 : Value).ownBlock))) u327000 I) := ⟨by rw [← hq_]; exact zkR A⟩; have T : Aside0 (Kd.R (Kd.int .i64) 3 wr w.heap.size (fun k_ => (some k_ ≠ (v329 : Value).ownBlock ∧ (some k_ ≠ (u327000 : Value).ownBlock ∧ some k_ ≠ (u327002 : Value).ownBlock))) u327001 E) := ⟨by rw [← hq_]; exact zkR q⟩; have U : Aside0 (Kd.R (Kd.int .i64) 3 wr w.heap.size (fun k_ => (some k_ ≠ (v329 : Value).ownBlock ∧ (some k_ ≠ (u327000 : Value).ownBlock ∧ some k_ ≠ (u327001 : Value).ownBlock))) u327002 D) := ⟨by rw [← hq_]; exact zkR B⟩; have X : Aside0 (Kd.R (Kd.int .i64) 3 wr w.heap.size (fun k_ => (some k_ ≠ (u327000 : Value).ownBlock ∧ (some k_ ≠ (u327001 : Value).ownBlock ∧ some k_ ≠ (u327002 : Value).ownBlock))) v329 F0) := ⟨by rw [← hq_]; exact zkR a0⟩; have d0 : Aside0 (wr.heap[i1]? = some (.cells #[.int .i64 c0, .int .i64 p0, .int .i64 q0, .int .i64 t0, .int .i64 x0, .int .i64 j0, .int .i64 m0, .int .i64 n0, .int .i64 A0, .int .i64 y0, .int .i64 b0] 35 (0, 0))) := ⟨by rw [← hq_]; exact (zM y)⟩; have e0 : Aside0 (wr.heap[I0]? = some (.cells #[.slice (some V1) L.length a1, .slice t1 g0.length b1, .slice x1 i0.length d1, .int .i64 C0, .int .i64 B0, .int .i64 J0] 30 (0, 0))) := ⟨by rw [← hq_]; exact (zM l)⟩; have f0 : Aside0 (wr.heap[M]? = some (.cells #[.slice none 0 0, .slice none 0 0, .slice none 0 0, .int .i64 0, .int .i64 0, .int .i64 0] 30 (0, 0))) := ⟨by rw [← hq_]; exact (zM z)⟩; have E0 : Aside0 (wr.heap[J]? = some (.cells #[u327000, u327001, u327002, .int .i64 (wrap64 (o0 + 1)), .int .i64 D0, .int .i64 O0] 30 (0, 0))) := ⟨by rw [← hq_]; exact (zM a)⟩; have G0 : Aside0 (Below w.heap.size w wr) := ⟨by rw [← hq_]; exact zB⟩; clear A q B a0 y l z a HB hq_; revert O T U X d0 e0 f0 E0 G0; intro A q B a0 y l z a HB))) | ((with_reducible refine gc 48 rfl ?_); refine zF 88 Try.func48 #[.int .i64 (wrap64 (L1 * U5)), .int .i64 65536] rfl zL ?_; (with_reducible refine (impl_Near.calls (wrap64 (L1 * U5)) 65536 V5 _ f0e.out).mono ?_); rintro e w' ⟨rfl, ⟨nd, rfl⟩⟩; refine ⟨_, rfl, ?_⟩; (try (rw [drewN_self wr]; generalize hq_ : World.drewN wr _ = wr; have O : Aside0 (Kd.R (Kd.int .i64) 3 wr w.heap.size (fun k_ => (some k_ ≠ (v329 : Value).ownBlock ∧ (some k_ ≠ (u327001 : Value).ownBlock ∧ some k_ ≠ (u327002 : Value).ownBlock))) u327000 I) := ⟨by rw [← hq_]; exact zkR A⟩; have T : Aside0 (Kd.R (Kd.int .i64) 3 wr w.heap.size (fun k_ => (some k_ ≠ (v329 : Value).ownBlock ∧ (some k_ ≠ (u327000 : Value).ownBlock ∧ some k_ ≠ (u327002 : Value).ownBlock))) u327001 E) := ⟨by rw [← hq_]; exact zkR q⟩; have U : Aside0 (Kd.R (Kd.int .i64) 3 wr w.heap.size (fun k_ => (some k_ ≠ (v329 : Value).ownBlock ∧ (some k_ ≠ (u327000 : Value).ownBlock ∧ some k_ ≠ (u327001 : Value).ownBlock))) u327002 D) := ⟨by rw [← hq_]; exact zkR B⟩; have X : Aside0 (Kd.R (Kd.int .i64) 3 wr w.heap.size (fun k_ => (some k_ ≠ (u327000 : Value).ownBlock ∧ (some k_ ≠ (u327001 : Value).ownBlock ∧ some k_ ≠ (u327002 : Value).ownBlock))) v329 F0) := ⟨by rw [← hq_]; exact zkR a0⟩; have d0 : Aside0 (wr.heap[i1]? = some (.cells #[.int .i64 c0, .int .i64 p0, .int .i64 q0, .int .i64 t0, .int .i64 x0, .int .i64 j0, .int .i64 m0, .int .i64 n0, .int .i64 A0, .int .i64 y0, .int .i64 b0] 35 (0, 0))) := ⟨by rw [← hq_]; exact (zM y)⟩; have e0 : Aside0 (wr.heap[I0]? = some (.cells #[.slice (some V1) L.length a1, .slice t1 g0.length b1, .slice x1 i0.length d1, .int .i64 C0, .int .i64 B0, .int .i64 J0] 30 (0, 0))) := ⟨by rw [← hq_]; exact (zM l)⟩; have f0 : Aside0 (wr.heap[M]? = some (.cells #[.slice none 0 0, .slice none 0 0, .slice none 0 0, .int .i64 0, .int .i64 0, .int .i64 0] 30 (0, 0))) := ⟨by rw [← hq_]; exact (zM z)⟩; have E0 : Aside0 (wr.heap[J]? = some (.cells #[u327000, u327001, u327002, .int .i64 (wrap64 (o0 + 1)), .int .i64 D0, .int .i64 O0] 30 (0, 0))) := ⟨by rw [← hq_]; exact (zM a)⟩; have G0 : Aside0 (Below w.heap.size w wr) := ⟨by rw [← hq_]; exact zB⟩; clear A q B a0 y l z a HB hq_; revert O T U X d0 e0 f0 E0 G0; intro A q B a0 y l z a HB))) | ((with_reducible refine gc 52 rfl ?_); refine zF 90 Try.func52 #[.int .i64 (wrap64 ((rd L u) - V5)), .int .i64 (-68719476736), .int .i64 68719476736] rfl zL ?_; (with_reducible refine (impl_bring_int.calls (wrap64 ((rd L u) - V5)) (-68719476736) 68719476736 X5 _ f0f.out).mono ?_); rintro e f1l ⟨rfl, hb⟩; refine ⟨_, rfl, ?_⟩; have O := zK (Kd.R_below (zkR a0) hb); have T := zK (Kd.R_below (zkR A) hb); have U := zK (Kd.R_below (zkR q) hb); have X := zK (Kd.R_below (zkR B) hb); have d0 := z7 y hb; have e0 := z7 l hb; have f0 := z7 z hb; have E0 := z7 a hb; have G0 := z8 hb; revert O T U X d0 e0 f0 E0 G0; clear a0 A q B y l z a HB; intro a0 A q B y l z a HB))
   have O := zK (Kd.R_drew a0.out)
   have T := zK (Kd.R_drew A.out)
   have U := zK (Kd.R_drew q.out)
   have X := zK (Kd.R_drew B.out)
   have d0 := zK (zd y.out)
   have e0 := zK (zd l.out)
   have f0 := zK (zd z.out)
   have E0 := zK (zd a.out)
   have G0 := zK (ze HB.out)
   revert O T U X d0 e0 f0 E0 G0
   clear a0 A q B y l z a HB
   intro a0 A q B y l z a HB
   obtain ⟨g3n, J6, b4l⟩ := Kd.R_slice a0.out
   (first | subst b4l | (injection b4l with f1_ f2_ f3_; have f4_ := f1_.symm; have f5_ := f3_.symm; clear f1_ f2_ f3_; subst f4_; subst f5_))
   have a6 : 0 ≤ (u : Int) := z3
   have b6 : u < (F0.length : Int) := z3
   obtain ⟨b3, b2b, J4⟩ := Kd.at_int (Kd.R_reads' a0.out).2.2 u a6 b6
   cases b2b
   replace a6 := eq_true a6
   replace b6 := eq_true b6
   have d6 : 0 ≤ (u : Int) := z3
   have e6 : u < (g0.length : Int) := z3
   obtain ⟨j5, b2c, n2⟩ := Kd.at_int g2.out u d6 e6
   have n3 := n2
   cases b2c
   (try replace n2 := zX HB n2)
   replace d6 := eq_true d6
   replace e6 := eq_true e6
   have f6 : 0 ≤ (u : Int) := z3
   have g6 : u < (i0.length : Int) := z3
   obtain ⟨l5, b2d, o2⟩ := Kd.at_int i2.out u f6 g6
   have o3 := o2
   cases b2d
   (try replace o2 := zX HB o2)
   replace f6 := eq_true f6
   replace g6 := eq_true g6
   refine start_ (n := 36) (S := fun w' => w'.cell? ⟨J, 0, none⟩ = some (u327000) ∧ w'.cell? ⟨J, 1, none⟩ = some (u327001) ∧ w'.cell? ⟨J, 2, none⟩ = some (u327002) ∧ w'.cell? ⟨J, 3, none⟩ = some (.int .i64 (wrap64 (o0 + 1))) ∧ w'.cell? ⟨J, 4, none⟩ = some (.int .i64 D0) ∧ w'.cell? ⟨J, 5, none⟩ = some (.int .i64 O0) ∧ w'.cell? ⟨I0, 0, none⟩ = some (.slice (some V1) L.length a1) ∧ w'.cell? ⟨I0, 1, none⟩ = some (.slice (some j5) g0.length b1) ∧ w'.cell? ⟨I0, 2, none⟩ = some (.slice (some l5) i0.length d1) ∧ w'.cell? ⟨I0, 3, none⟩ = some (.int .i64 C0) ∧ w'.cell? ⟨I0, 4, none⟩ = some (.int .i64 B0) ∧ w'.cell? ⟨I0, 5, none⟩ = some (.int .i64 J0) ∧ w'.cell? (b3.add (u).toNat) = some (.int .i64 (rd F0 u)) ∧ w'.cell? (j5.add (u).toNat) = some (.int .i64 (rd g0 u)) ∧ w'.cell? (l5.add (u).toNat) = some (.int .i64 (rd i0 u))) (ds := [35]) (bl 36 0) (by kernel_rfl) rfl (by kernel_rfl) ⟨zy a 0, zy a 1, zy a 2, zy a 3, zy a 4, zy a 5, zy l 0, zy l 1, zy l 2, zy l 3, zy l 4, zy l 5, J4, (zX HB n3:), (zX HB o3:)⟩ (fun hHeld => ?_); refine with_tabW impl_StepOpt.tab19 impl_StepOpt.bits19 (fun HT_ HW_ => ?_)
   generalize f1l.drew = g8d at a0 A q B y l z a HB J4 n2 o2 hHeld ⊢
   refine zP 0 92 (bl 36 1) HT_ ?_
   refine zP 2 94 (bl 36 5) HT_ ?_
   refine zP 3 95 (bl 36 13) HT_ ?_
   refine zP 5 97 (bl 36 45) HT_ ?_
   refine zP 6 98 (bl 36 109) HT_ ?_
   refine zP 7 99 (bl 36 237) HT_ ?_
   refine zP 8 100 (bl 36 493) HT_ ?_
   refine zP 9 101 (bl 36 1005) HT_ ?_
   refine zP 10 102 (bl 36 2029) HT_ ?_
   refine zP 12 104 (bl 36 6125) HT_ ?_
   refine zP 13 105 (bl 36 14317) HT_ ?_
   refine zP 15 107 (bl 36 47085) HT_ ?_
   refine zP 18 110 (bl 36 309229) HT_ ?_
   refine zP 20 112 (bl 36 1357805) HT_ ?_
   refine zP 23 115 (bl 36 9746413) HT_ ?_
   refine zP 24 116 (bl 36 26523629) HT_ ?_ (hr := by intro w'; go_simp; rw [StepP.nilA]; rfl)
   refine zP 25 117 (bl 36 60078061) HT_ ?_
   refine zT 1 93 (bl 36 60078063) rfl rfl HT_ HW_ hHeld (by rintro w' ⟨s0, s1, s2, s3, s4, s5, s6, s7, s8, s9, N1, O1, R1, S1, T1⟩; go_simp; with_reducible rfl) ?_
   refine zT 4 96 (bl 36 60078079) rfl rfl HT_ HW_ hHeld (by rintro w' ⟨s0, s1, s2, s3, s4, s5, s6, s7, s8, s9, N1, O1, R1, S1, T1⟩; go_simp; with_reducible rfl) ?_
   refine zT 11 103 (bl 36 60080127) rfl rfl HT_ HW_ hHeld (by rintro w' ⟨s0, s1, s2, s3, s4, s5, s6, s7, s8, s9, N1, O1, R1, S1, T1⟩; go_simp; with_reducible rfl) ?_
   refine zT 14 106 (bl 36 60096511) rfl rfl HT_ HW_ hHeld (by rintro w' ⟨s0, s1, s2, s3, s4, s5, s6, s7, s8, s9, N1, O1, R1, S1, T1⟩; go_simp; with_reducible rfl) ?_
   refine zP 16 108 (bl 36 60162047) HT_ ?_
   refine zT 17 109 (bl 36 60293119) rfl rfl HT_ HW_ hHeld (by rintro w' ⟨s0, s1, s2, s3, s4, s5, s6, s7, s8, s9, N1, O1, R1, S1, T1⟩; go_simp; with_reducible rfl) ?_
   refine zT 19 111 (bl 36 60817407) rfl rfl HT_ HW_ hHeld (by rintro w' ⟨s0, s1, s2, s3, s4, s5, s6, s7, s8, s9, N1, O1, R1, S1, T1⟩; go_simp; with_reducible rfl) ?_
   refine zP 21 113 (bl 36 62914559) HT_ ?_
   refine zT 22 114 (bl 36 67108863) rfl rfl HT_ HW_ hHeld (by rintro w' ⟨s0, s1, s2, s3, s4, s5, s6, s7, s8, s9, N1, O1, R1, S1, T1⟩; go_simp; with_reducible rfl) ?_
   refine one_ (i := 26) (N := some 118) (bl 36 134217727) rfl rfl (one_of HT_.out (by kernel_rfl)) (by decide) (fun K hK => ?_)
   refine call_ (StepP.moverN c0) #[StepP.moverX c0 j0 m0 n0, .int .i64 L1, .int .i64 (rd F0 u), .int .i64 X5, .int .i64 (rd g0 u), .int .i64 (rd i0 u)] (by rfl) rfl (by first | exact StepP.inv c0 j0 m0 n0 _ _ _ _ _ _ | (unfold execOp; simp [resolve, Act.eval]; exact StepP.inv c0 j0 m0 n0 _ _ _ _ _ _)) ?_
   with_reducible refine (StepP.moved k1 c0 j0 m0 n0 L1 (rd F0 u) X5 (rd g0 u) (rd i0 u) m3 o1 A1 _ (by with_unfolding_all exact f0g.out)).mono ?_
   rintro e F4 ⟨rfl, hb⟩
   have e5 := (hb.cell (World.block_lt_of_cell? _ _ (hHeld.2.2.2.2.2.2.2.2.2.2.2.2.1))).trans (hHeld.2.2.2.2.2.2.2.2.2.2.2.2.1)
   refine ⟨_, rfl, ?_⟩
   have O := zK (Kd.R_below (zkR a0) hb)
   have T := zK (Kd.R_below (zkR A) hb)
   have U := zK (Kd.R_below (zkR q) hb)
   have X := zK (Kd.R_below (zkR B) hb)
   have d0 := z7 y hb
   have e0 := z7 l hb
   have f0 := z7 z hb
   have E0 := z7 a hb
   have G0 := z8 hb
   revert O T U X d0 e0 f0 E0 G0
   clear a0 A q B y l z a HB
   intro a0 A q B y l z a HB
   (try clear hb)
   (try clear hb2)
   (try clear hk)
   (try clear hi)
   have b2e : 0 ≤ (u : Int) := z3
   have b2f : (u : Int) < ((E.length : Int) : Int) := z3
   obtain ⟨go207, m5, b4m, b4n, gl207, cl207, HG207⟩ := Kd.R_form q.out (by omega)
   (first | cases b4m | (injection b4m with ea_ en_ ec_; (first | subst ea_ | (injection ea_ with ea_; subst ea_)); subst ec_; clear en_))
   have GB207 := zK b4n
   have GG207 := zK HG207
   clear b4n gl207 HG207
   obtain ⟨f3e, hf207_0⟩ := Kd.R_celln 0 q.out (u : Int) b2e b2f
   replace b2e := eq_true b2e
   replace b2f := eq_true b2f
   have HP221 := Kd.R_putn q.out (u : Int) o1
   rw [← Ny346.out] at HP221
   have HQ221 := zK HP221
   clear HP221
   have b2g : 0 ≤ (u : Int) := z3
   have b2j : (u : Int) < ((D.length : Int) : Int) := z3
   obtain ⟨go209, n5, b4o, b4p, gl209, cl209, HG209⟩ := Kd.R_form B.out (by omega)
   (first | cases b4o | (injection b4o with ea_ en_ ec_; (first | subst ea_ | (injection ea_ with ea_; subst ea_)); subst ec_; clear en_))
   have GB209 := zK b4p
   have GG209 := zK HG209
   clear b4p gl209 HG209
   obtain ⟨f3f, hf209_0⟩ := Kd.R_celln 0 (Kd.R_far (p := ⟨go207, (u : Int).toNat, none⟩) (Kd.R_mono B.out (fun k_ hk => (⟨hk, fun e_ => hk.2.2 (by rw [e_]; rfl)⟩ : _ ∧ k_ ≠ go207))) (fun _ hk => hk.2) (.int .i64 o1)) (u : Int) b2g b2j
   replace b2g := eq_true b2g
   replace b2j := eq_true b2j
   have HP222 := Kd.R_putn (Kd.R_far (p := ⟨go207, (u : Int).toNat, none⟩) (Kd.R_mono B.out (fun k_ hk => (⟨hk, fun e_ => hk.2.2 (by rw [e_]; rfl)⟩ : _ ∧ k_ ≠ go207))) (fun _ hk => hk.2) (.int .i64 o1)) (u : Int) A1
   rw [← Ny347.out] at HP222
   have HQ222 := zK HP222
   clear HP222
   refine hK.out _ _ ⟨zy a 0, zy a 1, zy a 2, zy a 3, zy a 4, zy a 5, zy l 0, zy l 1, zy l 2, zy l 3, zy l 4, zy l 5, e5, (zX HB n3:), (zX HB o3:)⟩ (fun hHeld => ?_)
   clear hK K
   refine zU 118 ?_
   refine zP 27 91 (bl 36 268435455) HT_ ?_
   refine zP 28 119 (bl 36 536870911) HT_ ?_
   refine zP 29 120 (bl 36 1073741823) HT_ ?_
   refine zP 30 121 (bl 36 2147483647) HT_ ?_
   refine zP 31 13 (bl 36 4294967295) HT_ ?_
   refine zP 32 122 (bl 36 8589934591) HT_ ?_
   refine one_ (i := 33) (N := none) (bl 36 17179869183) rfl rfl (one_of HT_.out (by kernel_rfl)) (by decide) (fun K hK => ?_)
   refine skip_ (w1 := ?_) (by rfl) rfl ?_ ?_
   rotate_left
   · go_simp
     rfl
   refine hK.out _ _ ⟨((cell_far (p := ⟨go207, u.toNat, none⟩) (fun e_ => Kd.R_ne q.out a.out (by decide) (congrArg some e_)) _).trans (hHeld.1)), ((cell_far (p := ⟨go207, u.toNat, none⟩) (fun e_ => Kd.R_ne q.out a.out (by decide) (congrArg some e_)) _).trans (hHeld.2.1)), ((cell_far (p := ⟨go207, u.toNat, none⟩) (fun e_ => Kd.R_ne q.out a.out (by decide) (congrArg some e_)) _).trans (hHeld.2.2.1)), ((cell_far (p := ⟨go207, u.toNat, none⟩) (fun e_ => Kd.R_ne q.out a.out (by decide) (congrArg some e_)) _).trans (hHeld.2.2.2.1)), ((cell_far (p := ⟨go207, u.toNat, none⟩) (fun e_ => Kd.R_ne q.out a.out (by decide) (congrArg some e_)) _).trans (hHeld.2.2.2.2.1)), ((cell_far (p := ⟨go207, u.toNat, none⟩) (fun e_ => Kd.R_ne q.out a.out (by decide) (congrArg some e_)) _).trans (hHeld.2.2.2.2.2.1)), ((cell_far (p := ⟨go207, u.toNat, none⟩) (fun e_ => Kd.R_ne q.out l.out (by decide) (congrArg some e_)) _).trans (hHeld.2.2.2.2.2.2.1)), ((cell_far (p := ⟨go207, u.toNat, none⟩) (fun e_ => Kd.R_ne q.out l.out (by decide) (congrArg some e_)) _).trans (hHeld.2.2.2.2.2.2.2.1)), ((cell_far (p := ⟨go207, u.toNat, none⟩) (fun e_ => Kd.R_ne q.out l.out (by decide) (congrArg some e_)) _).trans (hHeld.2.2.2.2.2.2.2.2.1)), ((cell_far (p := ⟨go207, u.toNat, none⟩) (fun e_ => Kd.R_ne q.out l.out (by decide) (congrArg some e_)) _).trans (hHeld.2.2.2.2.2.2.2.2.2.1)), ((cell_far (p := ⟨go207, u.toNat, none⟩) (fun e_ => Kd.R_ne q.out l.out (by decide) (congrArg some e_)) _).trans (hHeld.2.2.2.2.2.2.2.2.2.2.1)), ((cell_far (p := ⟨go207, u.toNat, none⟩) (fun e_ => Kd.R_ne q.out l.out (by decide) (congrArg some e_)) _).trans (hHeld.2.2.2.2.2.2.2.2.2.2.2.1)), ((cell_far (p := ⟨go207, u.toNat, none⟩) (by (try rw [add_block]); exact (Kd.own_blk (Kd.R_away a0.out (fun _ hk => fun e_ => (hk.2.1) (congrArg some e_))))) _).trans (hHeld.2.2.2.2.2.2.2.2.2.2.2.2.1)), ((cell_far (p := ⟨go207, u.toNat, none⟩) (Nat.ne_of_lt (Nat.lt_of_lt_of_le (by have := World.block_lt_of_cell? _ _ n3; first | rwa [add_block] at this | exact this) (Kd.R_base q.out _ rfl))) _).trans (hHeld.2.2.2.2.2.2.2.2.2.2.2.2.2.1)), ((cell_far (p := ⟨go207, u.toNat, none⟩) (Nat.ne_of_lt (Nat.lt_of_lt_of_le (by have := World.block_lt_of_cell? _ _ o3; first | rwa [add_block] at this | exact this) (Kd.R_base q.out _ rfl))) _).trans (hHeld.2.2.2.2.2.2.2.2.2.2.2.2.2.2))⟩ (fun hHeld => ?_)
   clear hK K
   refine zP 34 123 (bl 36 34359738367) HT_ ?_
   refine last_ (i := 35) (N := none) (bl 36 68719476735) rfl rfl (one_of HT_.out (by kernel_rfl)) (by decide) (fun K hK => ?_)
   refine skip_ (w1 := ?_) (by rfl) rfl ?_ ?_
   rotate_left
   · go_simp
     rfl
   refine hK.out _ _ ?_
   clear hK K
   refine done_ (done_of HT_.out (by kernel_rfl)) ?_
   try go_wp2
   have O : Aside0 (Kd.R (Kd.int .i64) 3 ((F4.setCell ⟨go207, (u : Int).toNat, none⟩ (.int .i64 o1)).setCell ⟨go209, (u : Int).toNat, none⟩ (.int .i64 A1)) w.heap.size (fun k_ => some k_ ≠ (u327000 : Value).ownBlock ∧ some k_ ≠ (.slice (some ⟨go207, 0, none⟩) E.length m5 : Value).ownBlock ∧ some k_ ≠ (.slice (some ⟨go209, 0, none⟩) D.length n5 : Value).ownBlock) (.slice (some b3) F0.length J6) F0) := ⟨Kd.R_mono (zlR (Kd.R_mono (Kd.R_mono a0.out (fun k_ hk => (⟨hk, fun e_ => hk.2.1 (by rw [e_]; rfl)⟩ : _ ∧ k_ ≠ go207))) (fun k_ hk => (⟨hk, fun e_ => hk.1.2.2 (by rw [e_]; rfl)⟩ : _ ∧ k_ ≠ go209)))) (fun _ hk => ⟨hk.1.1.1, ⟨hk.1.1.2.1, hk.1.1.2.2⟩⟩)⟩
   have T : Aside0 (Kd.R (Kd.int .i64) 3 ((F4.setCell ⟨go207, (u : Int).toNat, none⟩ (.int .i64 o1)).setCell ⟨go209, (u : Int).toNat, none⟩ (.int .i64 A1)) w.heap.size (fun k_ => some k_ ≠ (.slice (some b3) F0.length J6 : Value).ownBlock ∧ some k_ ≠ (.slice (some ⟨go207, 0, none⟩) E.length m5 : Value).ownBlock ∧ some k_ ≠ (.slice (some ⟨go209, 0, none⟩) D.length n5 : Value).ownBlock) u327000 I) := ⟨Kd.R_mono (zlR (Kd.R_mono (Kd.R_mono A.out (fun k_ hk => (⟨hk, fun e_ => hk.2.1 (by rw [e_]; rfl)⟩ : _ ∧ k_ ≠ go207))) (fun k_ hk => (⟨hk, fun e_ => hk.1.2.2 (by rw [e_]; rfl)⟩ : _ ∧ k_ ≠ go209)))) (fun _ hk => ⟨hk.1.1.1, ⟨hk.1.1.2.1, hk.1.1.2.2⟩⟩)⟩
   have U : Aside0 (Kd.R (Kd.int .i64) 3 ((F4.setCell ⟨go207, (u : Int).toNat, none⟩ (.int .i64 o1)).setCell ⟨go209, (u : Int).toNat, none⟩ (.int .i64 A1)) w.heap.size (fun k_ => some k_ ≠ (.slice (some b3) F0.length J6 : Value).ownBlock ∧ some k_ ≠ (u327000 : Value).ownBlock ∧ some k_ ≠ (.slice (some ⟨go209, 0, none⟩) D.length n5 : Value).ownBlock) (.slice (some ⟨go207, 0, none⟩) E.length m5) C3) := ⟨Kd.R_mono (zlR (Kd.R_mono HQ221.out (fun k_ hk => (⟨hk, fun e_ => hk.2.2 (by rw [e_]; rfl)⟩ : _ ∧ k_ ≠ go209)))) (fun _ hk => ⟨hk.1.1, ⟨hk.1.2.1, hk.1.2.2⟩⟩)⟩
   have X : Aside0 (Kd.R (Kd.int .i64) 3 ((F4.setCell ⟨go207, (u : Int).toNat, none⟩ (.int .i64 o1)).setCell ⟨go209, (u : Int).toNat, none⟩ (.int .i64 A1)) w.heap.size (fun k_ => some k_ ≠ (.slice (some b3) F0.length J6 : Value).ownBlock ∧ some k_ ≠ (u327000 : Value).ownBlock ∧ some k_ ≠ (.slice (some ⟨go207, 0, none⟩) E.length m5 : Value).ownBlock) (.slice (some ⟨go209, 0, none⟩) D.length n5) i5) := ⟨Kd.R_mono (zlR HQ222.out) (fun _ hk => ⟨hk.1.1, ⟨hk.1.2.1, hk.1.2.2⟩⟩)⟩
   have d0 : Aside0 (((F4.setCell ⟨go207, (u : Int).toNat, none⟩ (.int .i64 o1)).setCell ⟨go209, (u : Int).toNat, none⟩ (.int .i64 A1)).heap[i1]? = some (.cells #[.int .i64 c0, .int .i64 p0, .int .i64 q0, .int .i64 t0, .int .i64 x0, .int .i64 j0, .int .i64 m0, .int .i64 n0, .int .i64 A0, .int .i64 y0, .int .i64 b0] 35 (0, 0))) := ⟨by (with_reducible repeat (first | refine zn ?_ _ | refine zd ?_ | refine za ?_ _)); refine blk_far ?_ (by have h_ := Kd.R_ne B.out y.out (by decide); intro e_; exact h_ (by rw [e_]; rfl)) _; (with_reducible repeat (first | refine zn ?_ _ | refine zd ?_ | refine za ?_ _)); refine blk_far ?_ (by have h_ := Kd.R_ne q.out y.out (by decide); intro e_; exact h_ (by rw [e_]; rfl)) _; (with_reducible repeat (first | refine zn ?_ _ | refine zd ?_ | refine za ?_ _)); exact y.out⟩
   have e0 : Aside0 (((F4.setCell ⟨go207, (u : Int).toNat, none⟩ (.int .i64 o1)).setCell ⟨go209, (u : Int).toNat, none⟩ (.int .i64 A1)).heap[I0]? = some (.cells #[.slice (some V1) L.length a1, .slice (some j5) g0.length b1, .slice (some l5) i0.length d1, .int .i64 C0, .int .i64 B0, .int .i64 J0] 30 (0, 0))) := ⟨by (with_reducible repeat (first | refine zn ?_ _ | refine zd ?_ | refine za ?_ _)); refine blk_far ?_ (by have h_ := Kd.R_ne B.out l.out (by decide); intro e_; exact h_ (by rw [e_]; rfl)) _; (with_reducible repeat (first | refine zn ?_ _ | refine zd ?_ | refine za ?_ _)); refine blk_far ?_ (by have h_ := Kd.R_ne q.out l.out (by decide); intro e_; exact h_ (by rw [e_]; rfl)) _; (with_reducible repeat (first | refine zn ?_ _ | refine zd ?_ | refine za ?_ _)); exact l.out⟩
   have f0 : Aside0 (((F4.setCell ⟨go207, (u : Int).toNat, none⟩ (.int .i64 o1)).setCell ⟨go209, (u : Int).toNat, none⟩ (.int .i64 A1)).heap[M]? = some (.cells #[.slice none 0 0, .slice none 0 0, .slice none 0 0, .int .i64 0, .int .i64 0, .int .i64 0] 30 (0, 0))) := ⟨by (with_reducible repeat (first | refine zn ?_ _ | refine zd ?_ | refine za ?_ _)); refine blk_far ?_ (by have h_ := Kd.R_ne B.out z.out (by decide); intro e_; exact h_ (by rw [e_]; rfl)) _; (with_reducible repeat (first | refine zn ?_ _ | refine zd ?_ | refine za ?_ _)); refine blk_far ?_ (by have h_ := Kd.R_ne q.out z.out (by decide); intro e_; exact h_ (by rw [e_]; rfl)) _; (with_reducible repeat (first | refine zn ?_ _ | refine zd ?_ | refine za ?_ _)); exact z.out⟩
   have E0 : Aside0 (((F4.setCell ⟨go207, (u : Int).toNat, none⟩ (.int .i64 o1)).setCell ⟨go209, (u : Int).toNat, none⟩ (.int .i64 A1)).heap[J]? = some (.cells #[u327000, .slice (some ⟨go207, 0, none⟩) E.length m5, .slice (some ⟨go209, 0, none⟩) D.length n5, .int .i64 (wrap64 (o0 + 1)), .int .i64 D0, .int .i64 O0] 30 (0, 0))) := ⟨by (with_reducible repeat (first | refine zn ?_ _ | refine zd ?_ | refine za ?_ _)); refine blk_far ?_ (by have h_ := Kd.R_ne B.out a.out (by decide); intro e_; exact h_ (by rw [e_]; rfl)) _; (with_reducible repeat (first | refine zn ?_ _ | refine zd ?_ | refine za ?_ _)); refine blk_far ?_ (by have h_ := Kd.R_ne q.out a.out (by decide); intro e_; exact h_ (by rw [e_]; rfl)) _; (with_reducible repeat (first | refine zn ?_ _ | refine zd ?_ | refine za ?_ _)); exact a.out⟩
   have G0 : Aside0 (Below w.heap.size w ((F4.setCell ⟨go207, (u : Int).toNat, none⟩ (.int .i64 o1)).setCell ⟨go209, (u : Int).toNat, none⟩ (.int .i64 A1))) := ⟨by repeat (first | (with_reducible first | exact HB.out | apply zb | apply zw | apply ze | refine zs ?_ GB207.out | refine zs ?_ GB209.out | refine zs ?_ b2.out | refine zs ?_ d2.out | refine zs ?_ e2.out | refine zs ?_ p3.out) | exact HB.out)⟩
   (try clear a0)
   (try clear A)
   (try clear q)
   (try clear B)
   (try clear y)
   (try clear l)
   (try clear z)
   (try clear a)
   (try clear HB)
   generalize ((F4.setCell ⟨go207, (u : Int).toNat, none⟩ (.int .i64 o1)).setCell ⟨go209, (u : Int).toNat, none⟩ (.int .i64 A1)) = f1m at O T U X d0 e0 f0 E0 G0 ⊢
   revert O T U X d0 e0 f0 E0 G0
   intro a0 A q B y l z a HB
   have O := zK (Kd.R_drew a0.out)
   have T := zK (Kd.R_drew A.out)
   have U := zK (Kd.R_drew q.out)
   have X := zK (Kd.R_drew B.out)
   have d0 := zK (zd y.out)
   have e0 := zK (zd l.out)
   have f0 := zK (zd z.out)
   have E0 := zK (zd a.out)
   have G0 := zK (ze HB.out)
   revert O T U X d0 e0 f0 E0 G0
   clear a0 A q B y l z a HB
   intro a0 A q B y l z a HB
   refine start_ (n := 7) (S := fun w' => w'.cell? ⟨J, 0, none⟩ = some (u327000) ∧ w'.cell? ⟨J, 1, none⟩ = some (.slice (some ⟨go207, 0, none⟩) E.length m5) ∧ w'.cell? ⟨J, 2, none⟩ = some (.slice (some ⟨go209, 0, none⟩) D.length n5) ∧ w'.cell? ⟨J, 3, none⟩ = some (.int .i64 (wrap64 (o0 + 1))) ∧ w'.cell? ⟨J, 4, none⟩ = some (.int .i64 D0) ∧ w'.cell? ⟨J, 5, none⟩ = some (.int .i64 O0)) (ds := [6]) (bl 7 0) (by kernel_rfl) rfl (by kernel_rfl) ⟨zy a 0, zy a 1, zy a 2, zy a 3, zy a 4, zy a 5⟩ (fun hHeld => ?_)
   generalize f1m.drew = g8e at a0 A q B y l z a HB HQ221 HQ222 hHeld ⊢
   refine pure_ (i := 0) (N := some 124) (v := ?_) (a' := ?_) (bl 7 1) rfl rfl (by kernel_rfl) (fun _ _ _ h => h) (Or.inl ⟨by rfl, ?_⟩) ?_ ?_
   rotate_left
   · intro w'
     go_simp
     with_reducible rfl
   rotate_left
   · simp only [Act.put, zq1, zq2, zq3, i64_w, i32_w]
     rfl
   refine pure_ (i := 2) (N := some 126) (v := ?_) (a' := ?_) (bl 7 5) rfl rfl (by kernel_rfl) (fun _ _ _ h => h) (Or.inl ⟨by rfl, ?_⟩) ?_ ?_
   rotate_left
   · intro w'
     go_simp
     with_reducible rfl
   rotate_left
   · simp only [Act.put, zq1, zq2, zq3, i64_w, i32_w]
     rfl
   refine pure_ (i := 3) (N := some 127) (v := ?_) (a' := ?_) (bl 7 13) rfl rfl (by kernel_rfl) (fun _ _ _ h => h) (Or.inl ⟨by rfl, ?_⟩) ?_ ?_
   rotate_left
   · intro w'
     go_simp
     with_reducible rfl
   rotate_left
   · simp only [Act.put, zq1, zq2, zq3, i64_w, i32_w]
     rfl
   refine take_ (i := 1) (N := some 125) (v := ?_) (a' := ?_) (bl 7 15) rfl rfl (by kernel_rfl) (fun _ _ _ h => h) (Or.inl ⟨by rfl, ?_⟩) hHeld ?_ ?_
   rotate_left
   · rintro w' ⟨s0, s1, s2, s3, s4, s5⟩
     go_simp
     with_reducible rfl
   rotate_left
   · simp only [Act.put, zq1, zq2, zq3, i64_w, i32_w]
     rfl
   refine one_ (i := 4) (N := some 128) (bl 7 31) rfl rfl (by kernel_rfl) (by decide) (fun K hK => ?_)
   refine goes_ Try.func52 (by kernel_rfl) rfl #[.int .i64 m3, .int .i64 (-68719476736), .int .i64 68719476736] (by rfl) rfl rfl zL ?_
   with_reducible refine (impl_bring_int.calls m3 (-68719476736) 68719476736 X1 _ f0j.out).mono ?_
   rintro e g8f ⟨rfl, hb⟩
   refine ⟨_, rfl, ?_⟩
   have O := zK (Kd.R_below (zkR a0) hb)
   have T := zK (Kd.R_below (zkR A) hb)
   have U := zK (Kd.R_below (zkR q) hb)
   have X := zK (Kd.R_below (zkR B) hb)
   have d0 := z7 y hb
   have e0 := z7 l hb
   have f0 := z7 z hb
   have E0 := z7 a hb
   have G0 := z8 hb
   revert O T U X d0 e0 f0 E0 G0
   clear a0 A q B y l z a HB
   intro a0 A q B y l z a HB
   (try clear hb)
   (try clear hb2)
   (try clear hk)
   (try clear hi)
   have b2l : 0 ≤ (u : Int) := z3
   have b2m : (u : Int) < ((I.length : Int) : Int) := z3
   obtain ⟨go212, c9c, b4q, b4s, gl212, cl212, HG212⟩ := Kd.R_form A.out (by omega)
   (first | cases b4q | (injection b4q with ea_ en_ ec_; (first | subst ea_ | (injection ea_ with ea_; subst ea_)); subst ec_; clear en_))
   have GB212 := zK b4s
   have GG212 := zK HG212
   clear b4s gl212 HG212
   obtain ⟨f3g, hf212_0⟩ := Kd.R_celln 0 A.out (u : Int) b2l b2m
   replace b2l := eq_true b2l
   replace b2m := eq_true b2m
   have HP226 := Kd.R_putn A.out (u : Int) X1
   rw [← Ny349.out] at HP226
   have HQ226 := zK HP226
   clear HP226
   refine hK.out _ _ ⟨zy a 0, zy a 1, zy a 2, zy a 3, zy a 4, zy a 5⟩ (fun hHeld => ?_)
   clear hK K
   refine zU 128 ?_
   refine pure_ (i := 5) (N := some 129) (v := ?_) (a' := ?_) (bl 7 63) rfl rfl (by kernel_rfl) (fun _ _ _ h => h) (Or.inl ⟨by rfl, ?_⟩) ?_ ?_
   rotate_left
   · intro w'
     go_simp
     with_reducible rfl
   rotate_left
   · simp only [Act.put, zq1, zq2, zq3, i64_w, i32_w]
     rfl
   refine last_ (i := 6) (N := none) (bl 7 127) rfl rfl (by kernel_rfl) (by decide) (fun K hK => ?_)
   refine skip_ (w1 := ?_) (by rfl) rfl ?_ ?_
   rotate_left
   · go_simp
     rfl
   refine hK.out _ _ ?_
   clear hK K
   refine done_ (by kernel_rfl) ?_
   try go_wp2
   go_roundg k1
   case measure => have := x6.out; omega
   case rel => exact ⟨(F0), (wrap64 (u + 1)), (m7), (C3), (i5), (.slice (some ⟨go212, 0, none⟩) I.length c9c), (.slice (some ⟨go207, 0, none⟩) E.length m5), (.slice (some ⟨go209, 0, none⟩) D.length n5), zR, H', ⟨by have := x6.out; omega⟩, ⟨Kd.R_mono (zlR (Kd.R_mono a0.out (fun k_ hk => (⟨hk, fun e_ => hk.1 (by rw [e_]; rfl)⟩ : _ ∧ k_ ≠ go212)))) (fun _ hk => ⟨hk.1.1, ⟨hk.1.2.1, hk.1.2.2⟩⟩)⟩, ⟨zkR HQ226⟩, ⟨Kd.R_mono (zlR (Kd.R_mono q.out (fun k_ hk => (⟨hk, fun e_ => hk.2.1 (by rw [e_]; rfl)⟩ : _ ∧ k_ ≠ go212)))) (fun _ hk => ⟨hk.1.1, ⟨hk.1.2.1, hk.1.2.2⟩⟩)⟩, ⟨Kd.R_mono (zlR (Kd.R_mono B.out (fun k_ hk => (⟨hk, fun e_ => hk.2.1 (by rw [e_]; rfl)⟩ : _ ∧ k_ ≠ go212)))) (fun _ hk => ⟨hk.1.1, ⟨hk.1.2.1, hk.1.2.2⟩⟩)⟩, ⟨by (with_reducible repeat (first | refine zn ?_ _ | refine zd ?_ | refine za ?_ _)); refine blk_far ?_ (by have h_ := Kd.R_ne A.out y.out (by decide); intro e_; exact h_ (by rw [e_]; rfl)) _; (with_reducible repeat (first | refine zn ?_ _ | refine zd ?_ | refine za ?_ _)); exact y.out⟩, ⟨by (with_reducible repeat (first | refine zn ?_ _ | refine zd ?_ | refine za ?_ _)); refine blk_far ?_ (by have h_ := Kd.R_ne A.out l.out (by decide); intro e_; exact h_ (by rw [e_]; rfl)) _; (with_reducible repeat (first | refine zn ?_ _ | refine zd ?_ | refine za ?_ _)); exact l.out⟩, ⟨by (with_reducible repeat (first | refine zn ?_ _ | refine zd ?_ | refine za ?_ _)); refine blk_far ?_ (by have h_ := Kd.R_ne A.out z.out (by decide); intro e_; exact h_ (by rw [e_]; rfl)) _; (with_reducible repeat (first | refine zn ?_ _ | refine zd ?_ | refine za ?_ _)); exact z.out⟩, ⟨by (with_reducible repeat (first | refine zn ?_ _ | refine zd ?_ | refine za ?_ _)); refine blk_far ?_ (by have h_ := Kd.R_ne A.out a.out (by decide); intro e_; exact h_ (by rw [e_]; rfl)) _; (with_reducible repeat (first | refine zn ?_ _ | refine zd ?_ | refine za ?_ _)); exact a.out⟩, ⟨by repeat (first | (with_reducible first | exact HB.out | apply zb | apply zw | apply ze | refine zs ?_ GB212.out | refine zs ?_ b2.out | refine zs ?_ d2.out | refine zs ?_ e2.out | refine zs ?_ p3.out) | exact HB.out)⟩⟩
 rw [if_pos F6] at H
 have y7 := z1 F6
 clear F6
 replace H := z6 H
 obtain ⟨y6, c7e, H⟩ := H
 have A28 := zK c7e
 clear c7e
 replace H := z6 H
 obtain ⟨J1, c7f, H⟩ := H
 have A29 := zK c7f
 clear c7f
 replace H := z6 H
 obtain ⟨c6q, c7g, H⟩ := H
 have A30 := zK c7g
 clear c7g
 have H' := zK H
 clear H
 go_enter Try.func12, Try.ntmps12
 go_wp2_with (first | ((with_reducible refine gd 3 rfl ?_); (try (refine gate_guard (by rfl) ?_; dsimp only)); refine zJ 3 #[.int .i64 c0, .int .i64 p0, .int .i64 q0, .int .i64 t0, .int .i64 x0, .int .i64 j0, .int .i64 m0, .int .i64 n0, .int .i64 A0, .int .i64 y0, .int .i64 b0] 35 ?_; intro i1 hg w31 hbox hb; have O := z8 hb; have T := zK (hbox); have U := z9 hg; have X := z9 hg; revert O T U X; clear HB; intro HB y D5 b2; clear hb hbox hg) | ((with_reducible refine gd 4 rfl ?_); (try (refine gate_guard (by rfl) ?_; dsimp only)); refine zJ 4 #[.slice B1 L.length a1, .slice t1 g0.length b1, .slice x1 i0.length d1, .int .i64 C0, .int .i64 B0, .int .i64 J0] 30 ?_; intro I0 hg w32 hbox hb; have O := z7 y hb; have T := z8 hb; have U := zK (hbox); have X := z9 hg; have d0 := z9 hg; have e0 := zHH hg y; have f0 := zGG hg y; revert O T U X d0 e0 f0; clear y HB; intro y HB l E5 d2 R0 S0; clear hb hbox hg) | ((with_reducible refine gd 6 rfl ?_); (try (refine gate_guard (by rfl) ?_; dsimp only)); refine zJ 6 #[.slice none 0 0, .slice none 0 0, .slice none 0 0, .int .i64 0, .int .i64 0, .int .i64 0] 30 ?_; intro M hg w33 hbox hb; have O := z7 y hb; have T := z7 l hb; have U := z8 hb; have X := zK (hbox); have d0 := z9 hg; have e0 := z9 hg; have f0 := zHH hg y; have E0 := zGG hg y; have G0 := zHH hg l; have a2 := zGG hg l; revert O T U X d0 e0 f0 E0 G0 a2; clear y l HB; intro y l HB z F5 e2 T0 U0 V0 X0; clear hb hbox hg; have g3o := R0.out; have g3p := S0.out; have g3q := T0.out; have g3s := U0.out; obtain ⟨b8m, b8n, b8o, b8p, b8q, b8s, b8t, b8u, b8x, b8y, b2n, b8z, b9a, b9b, b9c, b9d, b9e, b9f, b9g, b9j, b9l, b2o⟩ := zc11 y) | ((with_reducible refine gc 43 rfl ?_); refine zF 15 Try.func43 #[.agg #[.int .i64 c0, .int .i64 p0, .int .i64 q0, .int .i64 t0, .int .i64 x0, .int .i64 j0, .int .i64 m0, .int .i64 n0, .int .i64 A0, .int .i64 y0, .int .i64 b0]] rfl zL ?_; (with_reducible refine (impl_RuleOk.calls c0 p0 q0 t0 x0 j0 m0 n0 A0 y0 b0 true _ A4.out).mono ?_); rintro e w37 ⟨rfl, hb⟩; refine ⟨_, rfl, ?_⟩; have O := z7 y hb; have T := z7 l hb; have U := z7 z hb; have X := z8 hb; revert O T U X; clear y l z HB; intro y l z HB; have g3t := V0.out; have g3u := X0.out; obtain ⟨b9m, b9n, b9o, b9p, b9q, b9s, b9t, b9u, b9x, b9y, b9z, c0a⟩ := zc6 l) | (go_at_call 26; (with_reducible refine (impl_OptOk.calls k _ _ L _ _ g0 _ _ i0 C0 B0 J0 true _ ?side1 ?side2 ?side3 ?side4 ?side5 ?side6 A6.out).mono ?_); (case side1 => exact zS f2); (case side2 => exact q3.out); (case side3 => exact zS g2); (case side4 => exact t3.out); (case side5 => exact zS i2); (case side6 => exact x3.out); rintro e w40 ⟨rfl, hb⟩; have O := z7 y hb; have T := z7 l hb; have U := z7 z hb; have X := z8 hb; revert O T U X; clear y l z HB; intro y l z HB; obtain ⟨c0b, c0c, c0d, c0e, c0f, c0g, c0j, c0l, c0m, c0n, c0o, c0p⟩ := zc6 l) | ((with_reducible refine gc 44 rfl ?_); refine zF 37 Try.func44 #[.agg #[.slice B1 L.length a1, .slice t1 g0.length b1, .slice x1 i0.length d1, .int .i64 C0, .int .i64 B0, .int .i64 J0]] rfl zL ?_; refine (impl_cloneOpt.calls _ _ L _ _ g0 _ _ i0 C0 B0 J0 e1 f1 g1 o0 D0 O0 _ (zS f2) q3.out (zS g2) t3.out (zS i2) x3.out A23.out).mono ?_; rintro e w42 ⟨v315, v318, v321, rfl, q2, b8, d8, hb⟩; refine ⟨_, rfl, ?_⟩; have O := zK (Kd.R_lower q2 (zz zB)); have T := zK (Kd.R_lower b8 (zz zB)); have U := zK (Kd.R_lower d8 (zz zB)); have X := z7 y hb; have d0 := z7 l hb; have e0 := z7 z hb; have f0 := z8 hb; revert O T U X d0 e0 f0; clear y l z HB; intro L0 M0 N0 y l z HB) | ((with_reducible refine gd 8 rfl ?_); (try (refine gate_guard (by rfl) ?_; dsimp only)); refine zJ 8 #[.slice none 0 0, .slice none 0 0, .slice none 0 0, .int .i64 0, .int .i64 0, .int .i64 0] 30 ?_; intro J hg w43 hbox hb; have O := zK (Kd.R_below (zkR L0) hb); have T := zK (Kd.R_below (zkR M0) hb); have U := zK (Kd.R_below (zkR N0) hb); have X := z7 y hb; have d0 := z7 l hb; have e0 := z7 z hb; have f0 := z8 hb; have E0 := zK (hbox); have G0 := z9 hg; have a2 := z9 hg; have N6 := zHH hg y; have O6 := zGG hg y; have R6 := zHH hg l; have S6 := zGG hg l; have T6 := zHH hg z; have U6 := zGG hg z; revert O T U X d0 e0 f0 E0 G0 a2 N6 O6 R6 S6 T6 U6; clear L0 M0 N0 y l z HB; intro L0 M0 N0 y l z HB a b3n p3 j1 l1 D1 E1 F1 G1; clear hb hbox hg; obtain ⟨i6, j6, f1n⟩ := Kd.R_slice L0.out; subst f1n; have g3x := l1.out; have g3y := j1.out; have g3z := E1.out; have g4a := D1.out; have g4b := G1.out; have g4c := F1.out; obtain ⟨c0q, c0s, c0t, c0u, c0x, c0y, c0z, c1a, c1b, c1c, c1d, c1e⟩ := zc6 a; obtain ⟨l6, m6, f1o⟩ := Kd.R_slice M0.out; subst f1o; obtain ⟨n6, o6, f1p⟩ := Kd.R_slice N0.out; subst f1p) | ((with_reducible refine gate_store (t := 30) (p := 8) rfl ?_); refine store_event (t := 30) (p := 8) (v := ?vo_w51) (w1 := ((((((w43.setCell ⟨J, 0, none⟩ (.slice i6 e1.length j6)).setCell ⟨J, 1, none⟩ (.slice l6 f1.length m6)).setCell ⟨J, 2, none⟩ (.slice n6 g1.length o6)).setCell ⟨J, 3, none⟩ (.int .i64 o0)).setCell ⟨J, 4, none⟩ (.int .i64 D0)).setCell ⟨J, 5, none⟩ (.int .i64 O0))) ?hg ?ho ?hn ?hr ?_; (case ho => rfl); (case hg => rfl); (case hn => rfl); (case hr => first | (go_simp; done) | (go_simp; rfl)); intro G6 hw; have O : Aside0 (Kd.R (Kd.int .i64) 3 G6 w.heap.size (fun k_ => some k_ ≠ (.slice l6 f1.length m6 : Value).ownBlock ∧ some k_ ≠ (.slice n6 g1.length o6 : Value).ownBlock) (.slice i6 e1.length j6) e1) := ⟨(by rw [hw]; exact (Kd.R_mono (zlR (Kd.R_types L0.out a.out (by decide))) (fun _ hk => ⟨hk.1.1, hk.1.2⟩)))⟩; have T : Aside0 (Kd.R (Kd.int .i64) 3 G6 w.heap.size (fun k_ => some k_ ≠ (.slice i6 e1.length j6 : Value).ownBlock ∧ some k_ ≠ (.slice n6 g1.length o6 : Value).ownBlock) (.slice l6 f1.length m6) f1) := ⟨(by rw [hw]; exact (Kd.R_mono (zlR (Kd.R_types M0.out a.out (by decide))) (fun _ hk => ⟨hk.1.1, hk.1.2⟩)))⟩; have U : Aside0 (Kd.R (Kd.int .i64) 3 G6 w.heap.size (fun k_ => some k_ ≠ (.slice i6 e1.length j6 : Value).ownBlock ∧ some k_ ≠ (.slice l6 f1.length m6 : Value).ownBlock) (.slice n6 g1.length o6) g1) := ⟨(by rw [hw]; exact (Kd.R_mono (zlR (Kd.R_types N0.out a.out (by decide))) (fun _ hk => ⟨hk.1.1, hk.1.2⟩)))⟩; have X : Aside0 (G6.heap[i1]? = some (.cells #[.int .i64 c0, .int .i64 p0, .int .i64 q0, .int .i64 t0, .int .i64 x0, .int .i64 j0, .int .i64 m0, .int .i64 n0, .int .i64 A0, .int .i64 y0, .int .i64 b0] 35 (0, 0))) := ⟨(by rw [hw]; exact (zV y))⟩; have d0 : Aside0 (G6.heap[I0]? = some (.cells #[.slice B1 L.length a1, .slice t1 g0.length b1, .slice x1 i0.length d1, .int .i64 C0, .int .i64 B0, .int .i64 J0] 30 (0, 0))) := ⟨(by rw [hw]; exact (zV l))⟩; have e0 : Aside0 (G6.heap[M]? = some (.cells #[.slice none 0 0, .slice none 0 0, .slice none 0 0, .int .i64 0, .int .i64 0, .int .i64 0] 30 (0, 0))) := ⟨(by rw [hw]; exact (zV z))⟩; have f0 : Aside0 (G6.heap[J]? = some (.cells #[.slice i6 e1.length j6, .slice l6 f1.length m6, .slice n6 g1.length o6, .int .i64 o0, .int .i64 D0, .int .i64 O0] 30 (0, 0))) := ⟨(by rw [hw]; exact (zW a))⟩; have E0 : Aside0 (Below w.heap.size w G6) := ⟨(by rw [hw]; exact zB)⟩; revert O T U X d0 e0 f0 E0; clear hw L0 M0 N0 y l z a HB; intro L0 M0 N0 y l z a HB; obtain ⟨c1f, c1g, c1j, c1l, c1m, c1n, c1o, c1p, c1q, c1s, c1t, c1u⟩ := zc6 a) | ((with_reducible refine gc 45 rfl ?_); refine zF 43 Try.func45 #[.slice A2 l2.length c2] rfl zL ?_; refine (impl_gradOk.calls k _ _ l2 true _ (z4 T7.out zB) U7.out A24.out).mono ?_; rintro e w' ⟨rfl, ⟨nd, rfl⟩⟩; refine ⟨_, rfl, ?_⟩; obtain ⟨c1x, c1y, c1z, c2a, c2b, c2c, c2d, c2e, c2f, c2g, c2j, c2l⟩ := zc6 l) | ((with_reducible refine gc 46 rfl ?_); refine zF 54 Try.func46 #[.slice A2 l2.length c2, .func (.func 47) #[] #[.pointer (some ⟨I0, 0, none⟩)]] rfl zL ?_; (with_reducible refine (Mapped.mapped.calls47 k _ _ l2 (fun x => impl_Near.f x B0) I0 A3 _ ?side0 ?side1 ?side2 (by with_unfolding_all exact A26.out)).mono ?_); (case side0 => intro W_ x_ t_ hW_ hx_; exact StepH.near47 x_ B0 t_ I0 W_ (StepH.hcell hW_ ((zc (zV l) 4).trans rfl)) hx_); (case side1 => exact z4 T7.out zB); (case side2 => exact U7.out); rintro e w54 ⟨v329, rfl, q2, hb⟩; refine ⟨_, rfl, ?_⟩; have O := zK (Kd.R_elder' (Kd.R_mono (zlR (Kd.R_types L0.out a.out (by decide))) (fun _ h_ => h_.1)) (Kd.R_base q2) hb); have T := zK (Kd.R_elder' (Kd.R_mono (zlR (Kd.R_types M0.out a.out (by decide))) (fun _ h_ => h_.1)) (Kd.R_base q2) hb); have U := zK (Kd.R_elder' (Kd.R_mono (zlR (Kd.R_types N0.out a.out (by decide))) (fun _ h_ => h_.1)) (Kd.R_base q2) hb); have X := zK (Kd.R_lower (Kd.R_new' (Kd.R_new' (Kd.R_new' q2 (Kd.R_lt (Kd.R_mono (zlR (Kd.R_types L0.out a.out (by decide))) (fun _ h_ => h_.1)))) (Kd.R_lt (Kd.R_mono (zlR (Kd.R_types M0.out a.out (by decide))) (fun _ h_ => h_.1)))) (Kd.R_lt (Kd.R_mono (zlR (Kd.R_types N0.out a.out (by decide))) (fun _ h_ => h_.1)))) (zz zB)); have d0 := zK (zg (zV y) hb); have e0 := zK (zg (zV l) hb); have f0 := zK (zg (zV z) hb); have E0 := zK (zg (g := J) (o := .cells #[.slice i6 e1.length j6, .slice l6 f1.length m6, .slice n6 g1.length o6, .int .i64 (wrap64 (o0 + 1)), .int .i64 D0, .int .i64 O0] 30 (0, 0)) (zW a) hb); have G0 := z8 hb; revert O T U X d0 e0 f0 E0 G0; clear L0 M0 N0 y l z a HB; intro L0 M0 N0 C1 y l z a HB; obtain ⟨c2m, c2n, c2o, c2p, c2q, c2s, c2t, c2u, c2x, c2y, b2p, c2z, c3a, c3b, c3c, c3d, c3e, c3f, c3g, c3j, c3l, b2q⟩ := zc11 y; obtain ⟨f1q, f1s, f1t⟩ := Kd.R_slice C1.out; subst f1t) | ((with_reducible refine gc 49 rfl ?_); refine zF 61 Try.func49 #[.slice f1q A3.length f1s, .int .i64 y0] rfl zL ?_; refine (impl_Clip.calls k _ _ A3 y0 y6 _ (zC (Kd.R_reads' C1.out).2.2) ((Kd.R_reads' C1.out).2.1) A28.out).mono ?_; rintro e w57 ⟨v332, rfl, q2, hb⟩; refine ⟨_, rfl, ?_⟩; have O := zK (Kd.R_elder' (zkR L0) (Kd.R_base q2) hb); have T := zK (Kd.R_elder' (zkR M0) (Kd.R_base q2) hb); have U := zK (Kd.R_elder' (zkR N0) (Kd.R_base q2) hb); have X := zK (Kd.R_elder' (zkR C1) (Kd.R_base q2) hb); have d0 := zK (Kd.R_lower (Kd.R_new' (Kd.R_new' (Kd.R_new' (Kd.R_new' q2 (Kd.R_lt (zkR L0))) (Kd.R_lt (zkR M0))) (Kd.R_lt (zkR N0))) (Kd.R_lt (zkR C1))) (zz zB)); have e0 := z7 y hb; have f0 := z7 l hb; have E0 := z7 z hb; have G0 := z7 a hb; have a2 := z8 hb; revert O T U X d0 e0 f0 E0 G0 a2; clear L0 M0 N0 C1 y l z a HB; intro L0 M0 N0 C1 o5 y l z a HB; obtain ⟨c3m, c3n, c3o, c3p, c3q, c3s, c3t, c3u, c3x, c3y, b2s, c3z, c4a, c4b, c4c, c4d, c4e, c4f, c4g, c4j, c4l, b2t⟩ := zc11 y; obtain ⟨c4m, c4n, c4o, c4p, c4q, c4s, c4t, c4u, c4x, c4y, c4z, c5a⟩ := zc6 l) | ((with_reducible refine gc 50 rfl ?_); refine zF 66 Try.func50 #[.agg #[.int .i64 p0, .int .i64 q0, .int .i64 t0, .int .i64 x0], .int .i64 C0] rfl zL ?_; (with_reducible refine (impl_Rate.calls p0 q0 t0 x0 C0 J1 _ A29.out).mono ?_); rintro e w60 ⟨rfl, hb⟩; refine ⟨_, rfl, ?_⟩; have O := zK (Kd.R_below (zkR L0) hb); have T := zK (Kd.R_below (zkR M0) hb); have U := zK (Kd.R_below (zkR N0) hb); have X := zK (Kd.R_below (zkR C1) hb); have d0 := zK (Kd.R_below (zkR o5) hb); have e0 := z7 y hb; have f0 := z7 l hb; have E0 := z7 z hb; have G0 := z7 a hb; have a2 := z8 hb; revert O T U X d0 e0 f0 E0 G0 a2; clear L0 M0 N0 C1 o5 y l z a HB; intro L0 M0 N0 C1 o5 y l z a HB; obtain ⟨c5b, c5c, c5d, c5e, c5f, c5g, c5j, c5l, c5m, c5n, b2u, c5o, c5p, c5q, c5s, c5t, c5u, c5x, c5y, c5z, c6a, b2x⟩ := zc11 y) | ((with_reducible refine gc 51 rfl ?_); refine zF 68 Try.func51 #[.agg #[.int .i64 c0, .int .i64 p0, .int .i64 q0, .int .i64 t0, .int .i64 x0, .int .i64 j0, .int .i64 m0, .int .i64 n0, .int .i64 A0, .int .i64 y0, .int .i64 b0]] rfl zL ?_; (with_reducible refine (StepP.moverOf c0 p0 q0 t0 x0 j0 m0 n0 A0 y0 b0 _).mono ?_); rintro e w62 ⟨rfl, hb⟩; refine ⟨_, rfl, ?_⟩; have O := zK (Kd.R_below (zkR L0) hb); have T := zK (Kd.R_below (zkR M0) hb); have U := zK (Kd.R_below (zkR N0) hb); have X := zK (Kd.R_below (zkR C1) hb); have d0 := zK (Kd.R_below (zkR o5) hb); have e0 := z7 y hb; have f0 := z7 l hb; have E0 := z7 z hb; have G0 := z7 a hb; have a2 := z8 hb; revert O T U X d0 e0 f0 E0 G0 a2; clear L0 M0 N0 C1 o5 y l z a HB; intro L0 M0 N0 C1 o5 y l z a HB; obtain ⟨c6b, c6c, c6d, c6e, c6f, c6g, c6j, c6l, c6m, c6n, c6o, c6p⟩ := zc6 l))
 go_loopg [72] k (fun kq v72 w' => ∃ (F0 : List Int) (u : Int) (I : List Int) (E : List Int) (D : List Int) (u327000 : Value) (u327001 : Value) (u327002 : Value), v72 = .int .i64 u ∧ Aside0 (impl_StepOpt.l0 kq F0 J1 L (L.length : Int) u c0 p0 q0 t0 x0 j0 m0 n0 A0 y0 b0 L g0 i0 C0 B0 J0 I E D (wrap64 (o0 + 1)) D0 O0 = some (r1, r2, r3, r4, r5, r6, r7)) ∧ Aside0 (kq ≤ k) ∧ Aside0 (Kd.R (Kd.int .i64) 3 w' w.heap.size (fun k_ => some k_ ≠ (u327000 : Value).ownBlock ∧ some k_ ≠ (u327001 : Value).ownBlock ∧ some k_ ≠ (u327002 : Value).ownBlock) v332 F0) ∧ Aside0 (Kd.R (Kd.int .i64) 3 w' w.heap.size (fun k_ => some k_ ≠ (v332 : Value).ownBlock ∧ some k_ ≠ (u327001 : Value).ownBlock ∧ some k_ ≠ (u327002 : Value).ownBlock) u327000 I) ∧ Aside0 (Kd.R (Kd.int .i64) 3 w' w.heap.size (fun k_ => some k_ ≠ (v332 : Value).ownBlock ∧ some k_ ≠ (u327000 : Value).ownBlock ∧ some k_ ≠ (u327002 : Value).ownBlock) u327001 E) ∧ Aside0 (Kd.R (Kd.int .i64) 3 w' w.heap.size (fun k_ => some k_ ≠ (v332 : Value).ownBlock ∧ some k_ ≠ (u327000 : Value).ownBlock ∧ some k_ ≠ (u327001 : Value).ownBlock) u327002 D) ∧ Aside0 (w'.heap[i1]? = some (.cells #[.int .i64 c0, .int .i64 p0, .int .i64 q0, .int .i64 t0, .int .i64 x0, .int .i64 j0, .int .i64 m0, .int .i64 n0, .int .i64 A0, .int .i64 y0, .int .i64 b0] 35 (0, 0))) ∧ Aside0 (w'.heap[I0]? = some (.cells #[(.slice B1 L.length a1), (.slice t1 g0.length b1), (.slice x1 i0.length d1), .int .i64 C0, .int .i64 B0, .int .i64 J0] 30 (0, 0))) ∧ Aside0 (w'.heap[M]? = some (.cells #[(.slice none 0 0), (.slice none 0 0), (.slice none 0 0), .int .i64 0, .int .i64 0, .int .i64 0] 30 (0, 0))) ∧ Aside0 (w'.heap[J]? = some (.cells #[u327000, u327001, u327002, .int .i64 (wrap64 (o0 + 1)), .int .i64 D0, .int .i64 O0] 30 (0, 0))) ∧ Aside0 (Below w.heap.size w w'))
 case atStart => exact ⟨(y6), (0), (e1), (f1), (g1), (.slice i6 e1.length j6), (.slice l6 f1.length m6), (.slice n6 g1.length o6), zR, H', ⟨Nat.le_refl _⟩, ⟨Kd.R_mono (zlR o5.out) (fun _ hk => ⟨hk.1.1.1.2, ⟨hk.1.1.2, hk.1.2⟩⟩)⟩, ⟨Kd.R_mono (zlR L0.out) (fun _ hk => ⟨hk.2, ⟨hk.1.1.1, hk.1.1.2⟩⟩)⟩, ⟨Kd.R_mono (zlR M0.out) (fun _ hk => ⟨hk.2, ⟨hk.1.1.1, hk.1.1.2⟩⟩)⟩, ⟨Kd.R_mono (zlR N0.out) (fun _ hk => ⟨hk.2, ⟨hk.1.1.1, hk.1.1.2⟩⟩)⟩, ⟨zM y⟩, ⟨zM l⟩, ⟨zM z⟩, ⟨zM a⟩, ⟨zB⟩⟩
 clear H'
 try clear c1
 try clear c2
 try clear p2
 try clear c3
 try clear c4
 try clear c5
 try clear p6
 try clear c7
 try clear c8
 try clear c6u
 try clear c6x
 try clear c12
 try clear c13
 try clear c16
 try clear A5
 try clear b3f
 try clear b3g
 try clear b3j
 try clear a8
 try clear F6
 try clear y7
 try clear c34
 try clear c35
 try clear c38
 try clear c43
 try clear c44
 try clear c45
 try clear c46
 try clear c47
 try clear c49
 try clear c50
 try clear b5n b5o L8 b5p b5q b5s b5t b5u b5x b5y b5z b6a b6b M8 b6c b6d b6e b6f b6g b6j b6l b6m
 try clear b6n b6o b6p b6q b6s b6t b6u b6x b6y b6z b7a b7b
 try clear b7c b7d b7e b7f b7g b7j b7l b7m b7n b7o b7p b7q
 try clear b7s b7t b7u b7x b7y b7z b8a b8b b8c b8d b8e b8f
 try clear b8m b8n b2n b8o b8p b8q b8s b8t b8u b8x b8y b8z b9a b2o b9b b9c b9d b9e b9f b9g b9j b9l
 try clear b9m b9n b9o b9p b9q b9s b9t b9u b9x b9y b9z c0a
 try clear c0b c0c c0d c0e c0f c0g c0j c0l c0m c0n c0o c0p
 try clear c0q c0s c0t c0u c0x c0y c0z c1a c1b c1c c1d c1e
 try clear c1f c1g c1j c1l c1m c1n c1o c1p c1q c1s c1t c1u
 try clear c1x c1y c1z c2a c2b c2c c2d c2e c2f c2g c2j c2l
 try clear c2m c2n b2p c2o c2p c2q c2s c2t c2u c2x c2y c2z c3a b2q c3b c3c c3d c3e c3f c3g c3j c3l
 try clear c3m c3n b2s c3o c3p c3q c3s c3t c3u c3x c3y c3z c4a b2t c4b c4c c4d c4e c4f c4g c4j c4l
 try clear c4m c4n c4o c4p c4q c4s c4t c4u c4x c4y c4z c5a
 try clear c5b c5c b2u c5d c5e c5f c5g c5j c5l c5m c5n c5o c5p b2x c5q c5s c5t c5u c5x c5y c5z c6a
 try clear c6b c6c c6d c6e c6f c6g c6j c6l c6m c6n c6o c6p
 obtain ⟨F0, u, I, E, D, u327000, u327001, u327002, rfl, HA, x6, a0, A, q, B, y, l, z, a, HB⟩ := hrel
 rcases gk with _ | k1
 · exact absurd HA.out (by simp [impl_StepOpt.l0])
 have H := HA.out
 clear HA
 simp only [impl_StepOpt.l0] at H
 by_cases V6 : u < (L.length : Int)
 rotate_left
 · rw [if_neg V6] at H
   have b3q := z2 V6
   clear V6
   obtain ⟨ji120, hji120⟩ : ∃ j_ : Int, (mn (wrap64 (O0 + 1)) 1000000) = j_ := ⟨_, rfl⟩
   replace H : (if b0 > 0 then (if (ji120) ≥ b0 then (some (I, E, D, (wrap64 (o0 + 1)), mn (wrap64 (2 * D0)) 65536, 0, true)) else (some (I, E, D, (wrap64 (o0 + 1)), D0, ji120, true))) else (some (I, E, D, (wrap64 (o0 + 1)), D0, ji120, true))) = some (r1, r2, r3, r4, r5, r6, r7) := by first | (rw [hji120] at H; exact H) | (simp only [hji120] at H ⊢; exact H)
   have hji120_ : (if 1000000 < (wrap64 (O0 + 1)) then 1000000 else (wrap64 (O0 + 1))) = ji120 := hji120
   by_cases I5 : b0 > 0
   rotate_left
   · rw [if_neg I5] at H
     have t8 := z2 I5
     clear I5
     simp only [Option.some.injEq, Prod.mk.injEq] at H
     obtain ⟨rfl, rfl, rfl, rfl, rfl, rfl, rfl⟩ := H
     have g0e := l1.out
     have g0f := j1.out
     have g0g := E1.out
     have g0j := D1.out
     have g0l := G1.out
     have g0m := F1.out
     have a9l : wr.cell? ⟨J, 0, none⟩ = some (u327000) := zy a 0
     have a9m : wr.cell? ⟨J, 1, none⟩ = some (u327001) := zy a 1
     have a9n : wr.cell? ⟨J, 2, none⟩ = some (u327002) := zy a 2
     have a9o : wr.cell? ⟨J, 3, none⟩ = some (.int .i64 (wrap64 (o0 + 1))) := zy a 3
     have a9p : wr.cell? ⟨J, 4, none⟩ = some (.int .i64 D0) := zy a 4
     have a9q : wr.cell? ⟨J, 5, none⟩ = some (.int .i64 O0) := zy a 5
     have a9s := zf a.out 0
     have a9t := zf a.out 1
     have a9u := zf a.out 2
     have a9x := zf a.out 3
     have a9y := zf a.out 4
     have a9z := zf a.out 5
     have g0n := R0.out
     have g0o := S0.out
     have g0p := T0.out
     have g0q := U0.out
     obtain ⟨b0a, b0b, b0c, b0d, b0e, b0f, b0g, b0j, b0l, b0m, D8, b0n, b0o, b0p, b0q, b0s, b0t, b0u, b0x, b0y, b0z, E8⟩ := zc11 y
     obtain ⟨d4, e4, c9d⟩ := Kd.R_slice A.out
     subst c9d
     have g0s := X0.out
     have g0t := V0.out
     obtain ⟨b1a, b1b, b1c, b1d, b1e, b1f, b1g, b1j, b1l, b1m, b1n, b1o⟩ := zc6 z
     obtain ⟨f4, g4, c9e⟩ := Kd.R_slice q.out
     subst c9e
     obtain ⟨i4, j4, c9f⟩ := Kd.R_slice B.out
     subst c9f
     go_wp2_with (first | ((with_reducible refine gate_store (t := 30) (p := 6) rfl ?_); refine store_event (t := 30) (p := 6) (v := ?vo_w162) (w1 := (((((((wr.setCell ⟨J, 5, none⟩ (.int .i64 ji120)).setCell ⟨M, 0, none⟩ (.slice d4 I.length e4)).setCell ⟨M, 1, none⟩ (.slice f4 E.length g4)).setCell ⟨M, 2, none⟩ (.slice i4 D.length j4)).setCell ⟨M, 3, none⟩ (.int .i64 (wrap64 (o0 + 1)))).setCell ⟨M, 4, none⟩ (.int .i64 D0)).setCell ⟨M, 5, none⟩ (.int .i64 ji120))) ?hg ?ho ?hn ?hr ?_; (case ho => rfl); (case hg => rfl); (case hn => rfl); (case hr => first | (go_simp; done) | (go_simp; rfl)); intro p5 hw; have O : Aside0 (Kd.R (Kd.int .i64) 3 p5 w.heap.size (fun k_ => some k_ ≠ (.slice d4 I.length e4 : Value).ownBlock ∧ some k_ ≠ (.slice f4 E.length g4 : Value).ownBlock ∧ some k_ ≠ (.slice i4 D.length j4 : Value).ownBlock) v332 F0) := ⟨(by rw [hw]; exact (Kd.R_mono (zlR (Kd.R_types (Kd.R_types a0.out a.out (by decide)) z.out (by decide))) (fun _ hk => ⟨hk.1.1.1, ⟨hk.1.1.2.1, hk.1.1.2.2⟩⟩)))⟩; have T : Aside0 (Kd.R (Kd.int .i64) 3 p5 w.heap.size (fun k_ => some k_ ≠ (v332 : Value).ownBlock ∧ some k_ ≠ (.slice f4 E.length g4 : Value).ownBlock ∧ some k_ ≠ (.slice i4 D.length j4 : Value).ownBlock) (.slice d4 I.length e4) I) := ⟨(by rw [hw]; exact (Kd.R_mono (zlR (Kd.R_types (Kd.R_types A.out a.out (by decide)) z.out (by decide))) (fun _ hk => ⟨hk.1.1.1, ⟨hk.1.1.2.1, hk.1.1.2.2⟩⟩)))⟩; have U : Aside0 (Kd.R (Kd.int .i64) 3 p5 w.heap.size (fun k_ => some k_ ≠ (v332 : Value).ownBlock ∧ some k_ ≠ (.slice d4 I.length e4 : Value).ownBlock ∧ some k_ ≠ (.slice i4 D.length j4 : Value).ownBlock) (.slice f4 E.length g4) E) := ⟨(by rw [hw]; exact (Kd.R_mono (zlR (Kd.R_types (Kd.R_types q.out a.out (by decide)) z.out (by decide))) (fun _ hk => ⟨hk.1.1.1, ⟨hk.1.1.2.1, hk.1.1.2.2⟩⟩)))⟩; have X : Aside0 (Kd.R (Kd.int .i64) 3 p5 w.heap.size (fun k_ => some k_ ≠ (v332 : Value).ownBlock ∧ some k_ ≠ (.slice d4 I.length e4 : Value).ownBlock ∧ some k_ ≠ (.slice f4 E.length g4 : Value).ownBlock) (.slice i4 D.length j4) D) := ⟨(by rw [hw]; exact (Kd.R_mono (zlR (Kd.R_types (Kd.R_types B.out a.out (by decide)) z.out (by decide))) (fun _ hk => ⟨hk.1.1.1, ⟨hk.1.1.2.1, hk.1.1.2.2⟩⟩)))⟩; have d0 : Aside0 (p5.heap[i1]? = some (.cells #[.int .i64 c0, .int .i64 p0, .int .i64 q0, .int .i64 t0, .int .i64 x0, .int .i64 j0, .int .i64 m0, .int .i64 n0, .int .i64 A0, .int .i64 y0, .int .i64 b0] 35 (0, 0))) := ⟨(by rw [hw]; exact (zV y))⟩; have e0 : Aside0 (p5.heap[I0]? = some (.cells #[.slice B1 L.length a1, .slice t1 g0.length b1, .slice x1 i0.length d1, .int .i64 C0, .int .i64 B0, .int .i64 J0] 30 (0, 0))) := ⟨(by rw [hw]; exact (zV l))⟩; have f0 : Aside0 (p5.heap[M]? = some (.cells #[.slice d4 I.length e4, .slice f4 E.length g4, .slice i4 D.length j4, .int .i64 (wrap64 (o0 + 1)), .int .i64 D0, .int .i64 ji120] 30 (0, 0))) := ⟨(by rw [hw]; exact (zW z))⟩; have E0 : Aside0 (p5.heap[J]? = some (.cells #[.slice d4 I.length e4, .slice f4 E.length g4, .slice i4 D.length j4, .int .i64 (wrap64 (o0 + 1)), .int .i64 D0, .int .i64 ji120] 30 (0, 0))) := ⟨(by rw [hw]; exact (zW a))⟩; have G0 : Aside0 (Below w.heap.size w p5) := ⟨(by rw [hw]; exact zB)⟩; revert O T U X d0 e0 f0 E0 G0; clear hw a0 A q B y l z a HB; intro a0 A q B y l z a HB))
     refine bodyPost_ret (results_ct rfl _ _ M 30 #[.slice d4 I.length e4, .slice f4 E.length g4, .slice i4 D.length j4, .int .i64 (wrap64 (o0 + 1)), .int .i64 D0, .int .i64 ji120] (0, 0) _ rfl (zM z) Try.underlying30 rfl (by kernel_rfl)) rfl ?_
     exact ⟨_, _, _, by first | rfl | (simp [errW_none, errW_some] <;> rfl) | (simp only [← hji120]; first | rfl | (simp [errW_none, errW_some] <;> rfl)) | (simp [*, errW_none, errW_some] <;> rfl), Kd.R_mono (zlR A.out) (fun _ hk => ⟨hk.2.1, hk.2.2⟩), Kd.R_mono (zlR q.out) (fun _ hk => ⟨hk.2.1, hk.2.2⟩), Kd.R_mono (zlR B.out) (fun _ hk => ⟨hk.2.1, hk.2.2⟩), zB⟩
   rw [if_pos I5] at H
   have t8 := z1 I5
   clear I5
   by_cases J5 : (ji120) ≥ b0
   rotate_left
   · rw [if_neg J5] at H
     have x8 := z2 J5
     clear J5
     simp only [Option.some.injEq, Prod.mk.injEq] at H
     obtain ⟨rfl, rfl, rfl, rfl, rfl, rfl, rfl⟩ := H
     have g0u := l1.out
     have g0x := j1.out
     have g0y := E1.out
     have g0z := D1.out
     have g1a := G1.out
     have g1b := F1.out
     have a7e : wr.cell? ⟨J, 0, none⟩ = some (u327000) := zy a 0
     have a7f : wr.cell? ⟨J, 1, none⟩ = some (u327001) := zy a 1
     have a7g : wr.cell? ⟨J, 2, none⟩ = some (u327002) := zy a 2
     have a7j : wr.cell? ⟨J, 3, none⟩ = some (.int .i64 (wrap64 (o0 + 1))) := zy a 3
     have a7l : wr.cell? ⟨J, 4, none⟩ = some (.int .i64 D0) := zy a 4
     have a7m : wr.cell? ⟨J, 5, none⟩ = some (.int .i64 O0) := zy a 5
     have a7n := zf a.out 0
     have a7o := zf a.out 1
     have a7p := zf a.out 2
     have a7q := zf a.out 3
     have a7s := zf a.out 4
     have a7t := zf a.out 5
     have g1c := R0.out
     have g1d := S0.out
     have g1e := T0.out
     have g1f := U0.out
     obtain ⟨a7u, a7x, a7y, a7z, a8a, a8b, a8c, a8d, a8e, a8f, B8, a8g, a8j, a8l, a8m, a8n, a8o, a8p, a8q, a8s, a8t, C8⟩ := zc11 y
     obtain ⟨l4, m4, c9g⟩ := Kd.R_slice A.out
     subst c9g
     have g1g := X0.out
     have g1j := V0.out
     obtain ⟨a8u, a8x, a8y, a8z, a9a, a9b, a9c, a9d, a9e, a9f, a9g, a9j⟩ := zc6 z
     obtain ⟨n4, o4, c9j⟩ := Kd.R_slice q.out
     subst c9j
     obtain ⟨p4, q4, c9l⟩ := Kd.R_slice B.out
     subst c9l
     go_wp2_with (first | ((with_reducible refine gate_store (t := 30) (p := 6) rfl ?_); refine store_event (t := 30) (p := 6) (v := ?vo_w149) (w1 := (((((((wr.setCell ⟨J, 5, none⟩ (.int .i64 ji120)).setCell ⟨M, 0, none⟩ (.slice l4 I.length m4)).setCell ⟨M, 1, none⟩ (.slice n4 E.length o4)).setCell ⟨M, 2, none⟩ (.slice p4 D.length q4)).setCell ⟨M, 3, none⟩ (.int .i64 (wrap64 (o0 + 1)))).setCell ⟨M, 4, none⟩ (.int .i64 D0)).setCell ⟨M, 5, none⟩ (.int .i64 ji120))) ?hg ?ho ?hn ?hr ?_; (case ho => rfl); (case hg => rfl); (case hn => rfl); (case hr => first | (go_simp; done) | (go_simp; rfl)); intro q5 hw; have O : Aside0 (Kd.R (Kd.int .i64) 3 q5 w.heap.size (fun k_ => some k_ ≠ (.slice l4 I.length m4 : Value).ownBlock ∧ some k_ ≠ (.slice n4 E.length o4 : Value).ownBlock ∧ some k_ ≠ (.slice p4 D.length q4 : Value).ownBlock) v332 F0) := ⟨(by rw [hw]; exact (Kd.R_mono (zlR (Kd.R_types (Kd.R_types a0.out a.out (by decide)) z.out (by decide))) (fun _ hk => ⟨hk.1.1.1, ⟨hk.1.1.2.1, hk.1.1.2.2⟩⟩)))⟩; have T : Aside0 (Kd.R (Kd.int .i64) 3 q5 w.heap.size (fun k_ => some k_ ≠ (v332 : Value).ownBlock ∧ some k_ ≠ (.slice n4 E.length o4 : Value).ownBlock ∧ some k_ ≠ (.slice p4 D.length q4 : Value).ownBlock) (.slice l4 I.length m4) I) := ⟨(by rw [hw]; exact (Kd.R_mono (zlR (Kd.R_types (Kd.R_types A.out a.out (by decide)) z.out (by decide))) (fun _ hk => ⟨hk.1.1.1, ⟨hk.1.1.2.1, hk.1.1.2.2⟩⟩)))⟩; have U : Aside0 (Kd.R (Kd.int .i64) 3 q5 w.heap.size (fun k_ => some k_ ≠ (v332 : Value).ownBlock ∧ some k_ ≠ (.slice l4 I.length m4 : Value).ownBlock ∧ some k_ ≠ (.slice p4 D.length q4 : Value).ownBlock) (.slice n4 E.length o4) E) := ⟨(by rw [hw]; exact (Kd.R_mono (zlR (Kd.R_types (Kd.R_types q.out a.out (by decide)) z.out (by decide))) (fun _ hk => ⟨hk.1.1.1, ⟨hk.1.1.2.1, hk.1.1.2.2⟩⟩)))⟩; have X : Aside0 (Kd.R (Kd.int .i64) 3 q5 w.heap.size (fun k_ => some k_ ≠ (v332 : Value).ownBlock ∧ some k_ ≠ (.slice l4 I.length m4 : Value).ownBlock ∧ some k_ ≠ (.slice n4 E.length o4 : Value).ownBlock) (.slice p4 D.length q4) D) := ⟨(by rw [hw]; exact (Kd.R_mono (zlR (Kd.R_types (Kd.R_types B.out a.out (by decide)) z.out (by decide))) (fun _ hk => ⟨hk.1.1.1, ⟨hk.1.1.2.1, hk.1.1.2.2⟩⟩)))⟩; have d0 : Aside0 (q5.heap[i1]? = some (.cells #[.int .i64 c0, .int .i64 p0, .int .i64 q0, .int .i64 t0, .int .i64 x0, .int .i64 j0, .int .i64 m0, .int .i64 n0, .int .i64 A0, .int .i64 y0, .int .i64 b0] 35 (0, 0))) := ⟨(by rw [hw]; exact (zV y))⟩; have e0 : Aside0 (q5.heap[I0]? = some (.cells #[.slice B1 L.length a1, .slice t1 g0.length b1, .slice x1 i0.length d1, .int .i64 C0, .int .i64 B0, .int .i64 J0] 30 (0, 0))) := ⟨(by rw [hw]; exact (zV l))⟩; have f0 : Aside0 (q5.heap[M]? = some (.cells #[.slice l4 I.length m4, .slice n4 E.length o4, .slice p4 D.length q4, .int .i64 (wrap64 (o0 + 1)), .int .i64 D0, .int .i64 ji120] 30 (0, 0))) := ⟨(by rw [hw]; exact (zW z))⟩; have E0 : Aside0 (q5.heap[J]? = some (.cells #[.slice l4 I.length m4, .slice n4 E.length o4, .slice p4 D.length q4, .int .i64 (wrap64 (o0 + 1)), .int .i64 D0, .int .i64 ji120] 30 (0, 0))) := ⟨(by rw [hw]; exact (zW a))⟩; have G0 : Aside0 (Below w.heap.size w q5) := ⟨(by rw [hw]; exact zB)⟩; revert O T U X d0 e0 f0 E0 G0; clear hw a0 A q B y l z a HB; intro a0 A q B y l z a HB))
     refine bodyPost_ret (results_ct rfl _ _ M 30 #[.slice l4 I.length m4, .slice n4 E.length o4, .slice p4 D.length q4, .int .i64 (wrap64 (o0 + 1)), .int .i64 D0, .int .i64 ji120] (0, 0) _ rfl (zM z) Try.underlying30 rfl (by kernel_rfl)) rfl ?_
     exact ⟨_, _, _, by first | rfl | (simp [errW_none, errW_some] <;> rfl) | (simp only [← hji120]; first | rfl | (simp [errW_none, errW_some] <;> rfl)) | (simp [*, errW_none, errW_some] <;> rfl), Kd.R_mono (zlR A.out) (fun _ hk => ⟨hk.2.1, hk.2.2⟩), Kd.R_mono (zlR q.out) (fun _ hk => ⟨hk.2.1, hk.2.2⟩), Kd.R_mono (zlR B.out) (fun _ hk => ⟨hk.2.1, hk.2.2⟩), zB⟩
   rw [if_pos J5] at H
   have x8 := z1 J5
   clear J5
   obtain ⟨ji123, hji123⟩ : ∃ j_ : Int, (mn (wrap64 (2 * D0)) 65536) = j_ := ⟨_, rfl⟩
   replace H : (some (I, E, D, (wrap64 (o0 + 1)), ji123, 0, true)) = some (r1, r2, r3, r4, r5, r6, r7) := by first | (rw [hji123] at H; exact H) | (simp only [hji123] at H ⊢; exact H)
   have hji123_ : (if 65536 < (wrap64 (2 * D0)) then 65536 else (wrap64 (2 * D0))) = ji123 := hji123
   simp only [Option.some.injEq, Prod.mk.injEq] at H
   obtain ⟨rfl, rfl, rfl, rfl, rfl, rfl, rfl⟩ := H
   have g1l := l1.out
   have g1m := j1.out
   have g1n := E1.out
   have g1o := D1.out
   have g1p := G1.out
   have g1q := F1.out
   have a5a : wr.cell? ⟨J, 0, none⟩ = some (u327000) := zy a 0
   have a5b : wr.cell? ⟨J, 1, none⟩ = some (u327001) := zy a 1
   have a5c : wr.cell? ⟨J, 2, none⟩ = some (u327002) := zy a 2
   have a5d : wr.cell? ⟨J, 3, none⟩ = some (.int .i64 (wrap64 (o0 + 1))) := zy a 3
   have a5e : wr.cell? ⟨J, 4, none⟩ = some (.int .i64 D0) := zy a 4
   have a5f : wr.cell? ⟨J, 5, none⟩ = some (.int .i64 O0) := zy a 5
   have a5g := zf a.out 0
   have a5j := zf a.out 1
   have a5l := zf a.out 2
   have a5m := zf a.out 3
   have a5n := zf a.out 4
   have a5o := zf a.out 5
   have g1s := R0.out
   have g1t := S0.out
   have g1u := T0.out
   have g1x := U0.out
   obtain ⟨a5p, a5q, a5s, a5t, a5u, a5x, a5y, a5z, a6a, a6b, y8, a6c, a6d, a6e, a6f, a6g, a6j, a6l, a6m, a6n, a6o, A8⟩ := zc11 y
   obtain ⟨t4, x4, c9m⟩ := Kd.R_slice A.out
   subst c9m
   have g1y := X0.out
   have g1z := V0.out
   obtain ⟨a6p, a6q, a6s, a6t, a6u, a6x, a6y, a6z, a7a, a7b, a7c, a7d⟩ := zc6 z
   obtain ⟨y4, B4, c9n⟩ := Kd.R_slice q.out
   subst c9n
   obtain ⟨C4, D4, c9o⟩ := Kd.R_slice B.out
   subst c9o
   go_wp2_with (first | ((with_reducible refine gate_store (t := 30) (p := 6) rfl ?_); refine store_event (t := 30) (p := 6) (v := ?vo_w136) (w1 := (((((((((wr.setCell ⟨J, 5, none⟩ (.int .i64 ji120)).setCell ⟨J, 4, none⟩ (.int .i64 ji123)).setCell ⟨J, 5, none⟩ (.int .i64 0)).setCell ⟨M, 0, none⟩ (.slice t4 I.length x4)).setCell ⟨M, 1, none⟩ (.slice y4 E.length B4)).setCell ⟨M, 2, none⟩ (.slice C4 D.length D4)).setCell ⟨M, 3, none⟩ (.int .i64 (wrap64 (o0 + 1)))).setCell ⟨M, 4, none⟩ (.int .i64 ji123)).setCell ⟨M, 5, none⟩ (.int .i64 0))) ?hg ?ho ?hn ?hr ?_; (case ho => rfl); (case hg => rfl); (case hn => rfl); (case hr => first | (go_simp; done) | (go_simp; rfl)); intro t5 hw; have O : Aside0 (Kd.R (Kd.int .i64) 3 t5 w.heap.size (fun k_ => some k_ ≠ (.slice t4 I.length x4 : Value).ownBlock ∧ some k_ ≠ (.slice y4 E.length B4 : Value).ownBlock ∧ some k_ ≠ (.slice C4 D.length D4 : Value).ownBlock) v332 F0) := ⟨(by rw [hw]; exact (Kd.R_mono (zlR (Kd.R_types (Kd.R_types a0.out a.out (by decide)) z.out (by decide))) (fun _ hk => ⟨hk.1.1.1, ⟨hk.1.1.2.1, hk.1.1.2.2⟩⟩)))⟩; have T : Aside0 (Kd.R (Kd.int .i64) 3 t5 w.heap.size (fun k_ => some k_ ≠ (v332 : Value).ownBlock ∧ some k_ ≠ (.slice y4 E.length B4 : Value).ownBlock ∧ some k_ ≠ (.slice C4 D.length D4 : Value).ownBlock) (.slice t4 I.length x4) I) := ⟨(by rw [hw]; exact (Kd.R_mono (zlR (Kd.R_types (Kd.R_types A.out a.out (by decide)) z.out (by decide))) (fun _ hk => ⟨hk.1.1.1, ⟨hk.1.1.2.1, hk.1.1.2.2⟩⟩)))⟩; have U : Aside0 (Kd.R (Kd.int .i64) 3 t5 w.heap.size (fun k_ => some k_ ≠ (v332 : Value).ownBlock ∧ some k_ ≠ (.slice t4 I.length x4 : Value).ownBlock ∧ some k_ ≠ (.slice C4 D.length D4 : Value).ownBlock) (.slice y4 E.length B4) E) := ⟨(by rw [hw]; exact (Kd.R_mono (zlR (Kd.R_types (Kd.R_types q.out a.out (by decide)) z.out (by decide))) (fun _ hk => ⟨hk.1.1.1, ⟨hk.1.1.2.1, hk.1.1.2.2⟩⟩)))⟩; have X : Aside0 (Kd.R (Kd.int .i64) 3 t5 w.heap.size (fun k_ => some k_ ≠ (v332 : Value).ownBlock ∧ some k_ ≠ (.slice t4 I.length x4 : Value).ownBlock ∧ some k_ ≠ (.slice y4 E.length B4 : Value).ownBlock) (.slice C4 D.length D4) D) := ⟨(by rw [hw]; exact (Kd.R_mono (zlR (Kd.R_types (Kd.R_types B.out a.out (by decide)) z.out (by decide))) (fun _ hk => ⟨hk.1.1.1, ⟨hk.1.1.2.1, hk.1.1.2.2⟩⟩)))⟩; have d0 : Aside0 (t5.heap[i1]? = some (.cells #[.int .i64 c0, .int .i64 p0, .int .i64 q0, .int .i64 t0, .int .i64 x0, .int .i64 j0, .int .i64 m0, .int .i64 n0, .int .i64 A0, .int .i64 y0, .int .i64 b0] 35 (0, 0))) := ⟨(by rw [hw]; exact (zV y))⟩; have e0 : Aside0 (t5.heap[I0]? = some (.cells #[.slice B1 L.length a1, .slice t1 g0.length b1, .slice x1 i0.length d1, .int .i64 C0, .int .i64 B0, .int .i64 J0] 30 (0, 0))) := ⟨(by rw [hw]; exact (zV l))⟩; have f0 : Aside0 (t5.heap[M]? = some (.cells #[.slice t4 I.length x4, .slice y4 E.length B4, .slice C4 D.length D4, .int .i64 (wrap64 (o0 + 1)), .int .i64 ji123, .int .i64 0] 30 (0, 0))) := ⟨(by rw [hw]; exact (zW z))⟩; have E0 : Aside0 (t5.heap[J]? = some (.cells #[.slice t4 I.length x4, .slice y4 E.length B4, .slice C4 D.length D4, .int .i64 (wrap64 (o0 + 1)), .int .i64 ji123, .int .i64 0] 30 (0, 0))) := ⟨(by rw [hw]; exact (zW a))⟩; have G0 : Aside0 (Below w.heap.size w t5) := ⟨(by rw [hw]; exact zB)⟩; revert O T U X d0 e0 f0 E0 G0; clear hw a0 A q B y l z a HB; intro a0 A q B y l z a HB))
   refine bodyPost_ret (results_ct rfl _ _ M 30 #[.slice t4 I.length x4, .slice y4 E.length B4, .slice C4 D.length D4, .int .i64 (wrap64 (o0 + 1)), .int .i64 ji123, .int .i64 0] (0, 0) _ rfl (zM z) Try.underlying30 rfl (by kernel_rfl)) rfl ?_
   exact ⟨_, _, _, by first | rfl | (simp [errW_none, errW_some] <;> rfl) | (simp only [← hji120, ← hji123]; first | rfl | (simp [errW_none, errW_some] <;> rfl)) | (simp [*, errW_none, errW_some] <;> rfl), Kd.R_mono (zlR A.out) (fun _ hk => ⟨hk.2.1, hk.2.2⟩), Kd.R_mono (zlR q.out) (fun _ hk => ⟨hk.2.1, hk.2.2⟩), Kd.R_mono (zlR B.out) (fun _ hk => ⟨hk.2.1, hk.2.2⟩), zB⟩
 rw [if_pos V6] at H
 have b3q := z1 V6
 clear V6
 by_cases m8 : 0 ≤ u
 rotate_left
 · rw [if_neg m8] at H
   exact absurd H (by simp)
 rw [if_pos m8] at H
 have g4d := z1 m8
 clear m8
 by_cases n8 : u < (L.length : Int)
 rotate_left
 · rw [if_neg n8] at H
   exact absurd H (by simp)
 rw [if_pos n8] at H
 have g4e := z1 n8
 clear n8
 by_cases n7 : A0 > 0
 rotate_left
 · rw [if_neg n7] at H
   have c9p := z2 n7
   clear n7
   by_cases o8 : u < (F0.length : Int)
   rotate_left
   · rw [if_neg o8] at H
     exact absurd H (by simp)
   rw [if_pos o8] at H
   have g4f := z1 o8
   clear o8
   by_cases p8 : u < (g0.length : Int)
   rotate_left
   · rw [if_neg p8] at H
     exact absurd H (by simp)
   rw [if_pos p8] at H
   have g4g := z1 p8
   clear p8
   by_cases q8 : u < (i0.length : Int)
   rotate_left
   · rw [if_neg q8] at H
     exact absurd H (by simp)
   rw [if_pos q8] at H
   have g4j := z1 q8
   clear q8
   replace H := z6 H
   obtain ⟨⟨d3, n1, y1⟩, c7j, H⟩ := H
   replace H : (if u < (E.length : Int) then (if u < (D.length : Int) then ((impl_bring_int.f d3 (-68719476736) 68719476736).bind fun U1 => (if u < (I.length : Int) then (impl_StepOpt.l0 k1 F0 J1 L (L.length : Int) (wrap64 (u + 1)) c0 p0 q0 t0 x0 j0 m0 n0 A0 y0 b0 L g0 i0 C0 B0 J0 (I.set (u : Int).toNat U1) (E.set (u : Int).toNat n1) (D.set (u : Int).toNat y1) (wrap64 (o0 + 1)) D0 O0) else (none))) else (none)) else (none)) = some (r1, r2, r3, r4, r5, r6, r7) := H
   have A99 := zK c7j
   clear c7j
   by_cases X6 : u < (E.length : Int)
   rotate_left
   · rw [if_neg X6] at H
     exact absurd H (by simp)
   rw [if_pos X6] at H
   have g2b := z1 X6
   clear X6
   obtain ⟨B3, O2⟩ : ∃ y_ : List Int, y_ = (E.set (u : Int).toNat n1) := ⟨_, rfl⟩
   replace H : (if u < (D.length : Int) then ((impl_bring_int.f d3 (-68719476736) 68719476736).bind fun U1 => (if u < (I.length : Int) then (impl_StepOpt.l0 k1 F0 J1 L (L.length : Int) (wrap64 (u + 1)) c0 p0 q0 t0 x0 j0 m0 n0 A0 y0 b0 L g0 i0 C0 B0 J0 (I.set (u : Int).toNat U1) B3 (D.set (u : Int).toNat y1) (wrap64 (o0 + 1)) D0 O0) else (none))) else (none)) = some (r1, r2, r3, r4, r5, r6, r7) := by first | (rw [O2]; with_reducible exact H) | (have m1 := (Option.bind_some _ _).symm.trans H; rw [O2]; with_reducible exact m1) | (have m1 := (Option.bind_some _ _).symm.trans H; with_reducible exact m1) | with_reducible exact H | (rw [O2]; exact H) | exact H
   have Ny356 := zK O2
   clear O2
   by_cases d7 : u < (D.length : Int)
   rotate_left
   · rw [if_neg d7] at H
     exact absurd H (by simp)
   rw [if_pos d7] at H
   have g2c := z1 d7
   clear d7
   obtain ⟨a5, R2⟩ : ∃ y_ : List Int, y_ = (D.set (u : Int).toNat y1) := ⟨_, rfl⟩
   replace H : ((impl_bring_int.f d3 (-68719476736) 68719476736).bind fun U1 => (if u < (I.length : Int) then (impl_StepOpt.l0 k1 F0 J1 L (L.length : Int) (wrap64 (u + 1)) c0 p0 q0 t0 x0 j0 m0 n0 A0 y0 b0 L g0 i0 C0 B0 J0 (I.set (u : Int).toNat U1) B3 a5 (wrap64 (o0 + 1)) D0 O0) else (none))) = some (r1, r2, r3, r4, r5, r6, r7) := by first | (rw [R2]; with_reducible exact H) | (have m1 := (Option.bind_some _ _).symm.trans H; rw [R2]; with_reducible exact m1) | (have m1 := (Option.bind_some _ _).symm.trans H; with_reducible exact m1) | with_reducible exact H | (rw [R2]; exact H) | exact H
   have Ny357 := zK R2
   clear R2
   replace H := z6 H
   obtain ⟨U1, b4t, H⟩ := H
   have f1u := zK b4t
   clear b4t
   by_cases g7 : u < (I.length : Int)
   rotate_left
   · rw [if_neg g7] at H
     exact absurd H (by simp)
   rw [if_pos g7] at H
   have g2d := z1 g7
   clear g7
   obtain ⟨l7, T2⟩ : ∃ y_ : List Int, y_ = (I.set (u : Int).toNat U1) := ⟨_, rfl⟩
   replace H : (impl_StepOpt.l0 k1 F0 J1 L (L.length : Int) (wrap64 (u + 1)) c0 p0 q0 t0 x0 j0 m0 n0 A0 y0 b0 L g0 i0 C0 B0 J0 l7 B3 a5 (wrap64 (o0 + 1)) D0 O0) = some (r1, r2, r3, r4, r5, r6, r7) := by first | (rw [T2]; with_reducible exact H) | (have m1 := (Option.bind_some _ _).symm.trans H; rw [T2]; with_reducible exact m1) | (have m1 := (Option.bind_some _ _).symm.trans H; with_reducible exact m1) | with_reducible exact H | (rw [T2]; exact H) | exact H
   have Ny359 := zK T2
   clear T2
   have H' := zK H
   clear H
   have E2 : 0 ≤ (u : Int) := z3
   have F2 : u < (L.length : Int) := z3
   obtain ⟨V1, L5, M1⟩ := Kd.at_int f2.out u E2 F2
   cases L5
   (try replace M1 := zX HB M1)
   replace E2 := eq_true E2
   replace F2 := eq_true F2
   have g2e := R0.out
   have g2f := S0.out
   have g2g := T0.out
   have g2j := U0.out
   have g2l := j1.out
   have g2m := l1.out
   obtain ⟨f1x, f1y, f1z, f2a, f2b, f2c, f2d, f2e, f2f, f2g, d0x, f2j, f2l, f2m, f2n, f2o, f2p, f2q, f2s, f2t, f2u, d0y⟩ := zc11 y
   try go_wp2
   have O := zK (Kd.R_drew a0.out)
   have T := zK (Kd.R_drew A.out)
   have U := zK (Kd.R_drew q.out)
   have X := zK (Kd.R_drew B.out)
   have d0 := zK (zd y.out)
   have e0 := zK (zd l.out)
   have f0 := zK (zd z.out)
   have E0 := zK (zd a.out)
   have G0 := zK (ze HB.out)
   revert O T U X d0 e0 f0 E0 G0
   clear a0 A q B y l z a HB
   intro a0 A q B y l z a HB
   obtain ⟨g4l, L6, b4u⟩ := Kd.R_slice a0.out
   (first | subst b4u | (injection b4u with f1_ f2_ f3_; have f4_ := f1_.symm; have f5_ := f3_.symm; clear f1_ f2_ f3_; subst f4_; subst f5_))
   have M5 : 0 ≤ (u : Int) := z3
   have N5 : u < (F0.length : Int) := z3
   obtain ⟨U2, b1p, I4⟩ := Kd.at_int (Kd.R_reads' a0.out).2.2 u M5 N5
   cases b1p
   replace M5 := eq_true M5
   replace N5 := eq_true N5
   have O5 : 0 ≤ (u : Int) := z3
   have R5 : u < (g0.length : Int) := z3
   obtain ⟨b5, b1q, j2⟩ := Kd.at_int g2.out u O5 R5
   have e3 := j2
   cases b1q
   (try replace j2 := zX HB j2)
   replace O5 := eq_true O5
   replace R5 := eq_true R5
   have S5 : 0 ≤ (u : Int) := z3
   have T5 : u < (i0.length : Int) := z3
   obtain ⟨d5, b1s, m2⟩ := Kd.at_int i2.out u S5 T5
   have f3 := m2
   cases b1s
   (try replace m2 := zX HB m2)
   replace S5 := eq_true S5
   replace T5 := eq_true T5
   refine start_ (n := 36) (S := fun w' => w'.cell? ⟨J, 0, none⟩ = some (u327000) ∧ w'.cell? ⟨J, 1, none⟩ = some (u327001) ∧ w'.cell? ⟨J, 2, none⟩ = some (u327002) ∧ w'.cell? ⟨J, 3, none⟩ = some (.int .i64 (wrap64 (o0 + 1))) ∧ w'.cell? ⟨J, 4, none⟩ = some (.int .i64 D0) ∧ w'.cell? ⟨J, 5, none⟩ = some (.int .i64 O0) ∧ w'.cell? ⟨I0, 0, none⟩ = some (.slice (some V1) L.length a1) ∧ w'.cell? ⟨I0, 1, none⟩ = some (.slice (some b5) g0.length b1) ∧ w'.cell? ⟨I0, 2, none⟩ = some (.slice (some d5) i0.length d1) ∧ w'.cell? ⟨I0, 3, none⟩ = some (.int .i64 C0) ∧ w'.cell? ⟨I0, 4, none⟩ = some (.int .i64 B0) ∧ w'.cell? ⟨I0, 5, none⟩ = some (.int .i64 J0) ∧ w'.cell? (U2.add (u).toNat) = some (.int .i64 (rd F0 u)) ∧ w'.cell? (b5.add (u).toNat) = some (.int .i64 (rd g0 u)) ∧ w'.cell? (d5.add (u).toNat) = some (.int .i64 (rd i0 u))) (ds := [35]) (bl 36 0) (by kernel_rfl) rfl (by kernel_rfl) ⟨zy a 0, zy a 1, zy a 2, zy a 3, zy a 4, zy a 5, zy l 0, zy l 1, zy l 2, zy l 3, zy l 4, zy l 5, I4, (zX HB e3:), (zX HB f3:)⟩ (fun hHeld => ?_); refine with_tabW impl_StepOpt.tab19 impl_StepOpt.bits19 (fun HT_ HW_ => ?_)
   generalize wr.drew = g8g at a0 A q B y l z a HB I4 j2 m2 hHeld ⊢
   refine zP 0 92 (bl 36 1) HT_ ?_
   refine zP 2 94 (bl 36 5) HT_ ?_
   refine zP 3 95 (bl 36 13) HT_ ?_
   refine zP 5 97 (bl 36 45) HT_ ?_
   refine zP 6 98 (bl 36 109) HT_ ?_
   refine zP 7 99 (bl 36 237) HT_ ?_
   refine zP 8 100 (bl 36 493) HT_ ?_
   refine zP 9 101 (bl 36 1005) HT_ ?_
   refine zP 10 102 (bl 36 2029) HT_ ?_
   refine zP 12 104 (bl 36 6125) HT_ ?_
   refine zP 13 105 (bl 36 14317) HT_ ?_
   refine zP 15 107 (bl 36 47085) HT_ ?_
   refine zP 18 110 (bl 36 309229) HT_ ?_
   refine zP 20 112 (bl 36 1357805) HT_ ?_
   refine zP 23 115 (bl 36 9746413) HT_ ?_
   refine zP 24 116 (bl 36 26523629) HT_ ?_ (hr := by intro w'; go_simp; rw [StepP.nilA]; rfl)
   refine zP 25 117 (bl 36 60078061) HT_ ?_
   refine zT 1 93 (bl 36 60078063) rfl rfl HT_ HW_ hHeld (by rintro w' ⟨s0, s1, s2, s3, s4, s5, s6, s7, s8, s9, N1, O1, R1, S1, T1⟩; go_simp; with_reducible rfl) ?_
   refine zT 4 96 (bl 36 60078079) rfl rfl HT_ HW_ hHeld (by rintro w' ⟨s0, s1, s2, s3, s4, s5, s6, s7, s8, s9, N1, O1, R1, S1, T1⟩; go_simp; with_reducible rfl) ?_
   refine zT 11 103 (bl 36 60080127) rfl rfl HT_ HW_ hHeld (by rintro w' ⟨s0, s1, s2, s3, s4, s5, s6, s7, s8, s9, N1, O1, R1, S1, T1⟩; go_simp; with_reducible rfl) ?_
   refine zT 14 106 (bl 36 60096511) rfl rfl HT_ HW_ hHeld (by rintro w' ⟨s0, s1, s2, s3, s4, s5, s6, s7, s8, s9, N1, O1, R1, S1, T1⟩; go_simp; with_reducible rfl) ?_
   refine zP 16 108 (bl 36 60162047) HT_ ?_
   refine zT 17 109 (bl 36 60293119) rfl rfl HT_ HW_ hHeld (by rintro w' ⟨s0, s1, s2, s3, s4, s5, s6, s7, s8, s9, N1, O1, R1, S1, T1⟩; go_simp; with_reducible rfl) ?_
   refine zT 19 111 (bl 36 60817407) rfl rfl HT_ HW_ hHeld (by rintro w' ⟨s0, s1, s2, s3, s4, s5, s6, s7, s8, s9, N1, O1, R1, S1, T1⟩; go_simp; with_reducible rfl) ?_
   refine zP 21 113 (bl 36 62914559) HT_ ?_
   refine zT 22 114 (bl 36 67108863) rfl rfl HT_ HW_ hHeld (by rintro w' ⟨s0, s1, s2, s3, s4, s5, s6, s7, s8, s9, N1, O1, R1, S1, T1⟩; go_simp; with_reducible rfl) ?_
   refine one_ (i := 26) (N := some 118) (bl 36 134217727) rfl rfl (one_of HT_.out (by kernel_rfl)) (by decide) (fun K hK => ?_)
   refine call_ (StepP.moverN c0) #[StepP.moverX c0 j0 m0 n0, .int .i64 J1, .int .i64 (rd F0 u), .int .i64 (rd L u), .int .i64 (rd g0 u), .int .i64 (rd i0 u)] (by rfl) rfl (by first | exact StepP.inv c0 j0 m0 n0 _ _ _ _ _ _ | (unfold execOp; simp [resolve, Act.eval]; exact StepP.inv c0 j0 m0 n0 _ _ _ _ _ _)) ?_
   with_reducible refine (StepP.moved k1 c0 j0 m0 n0 J1 (rd F0 u) (rd L u) (rd g0 u) (rd i0 u) d3 n1 y1 _ (by with_unfolding_all exact A99.out)).mono ?_
   rintro e G4 ⟨rfl, hb⟩
   have e5 := (hb.cell (World.block_lt_of_cell? _ _ (hHeld.2.2.2.2.2.2.2.2.2.2.2.2.1))).trans (hHeld.2.2.2.2.2.2.2.2.2.2.2.2.1)
   refine ⟨_, rfl, ?_⟩
   have O := zK (Kd.R_below (zkR a0) hb)
   have T := zK (Kd.R_below (zkR A) hb)
   have U := zK (Kd.R_below (zkR q) hb)
   have X := zK (Kd.R_below (zkR B) hb)
   have d0 := z7 y hb
   have e0 := z7 l hb
   have f0 := z7 z hb
   have E0 := z7 a hb
   have G0 := z8 hb
   revert O T U X d0 e0 f0 E0 G0
   clear a0 A q B y l z a HB
   intro a0 A q B y l z a HB
   (try clear hb)
   (try clear hb2)
   (try clear hk)
   (try clear hi)
   have a7 : 0 ≤ (u : Int) := z3
   have b7 : (u : Int) < ((E.length : Int) : Int) := z3
   obtain ⟨go101, x5, b4x, b4y, gl101, cl101, HG101⟩ := Kd.R_form q.out (by omega)
   (first | cases b4x | (injection b4x with ea_ en_ ec_; (first | subst ea_ | (injection ea_ with ea_; subst ea_)); subst ec_; clear en_))
   have GB101 := zK b4y
   have GG101 := zK HG101
   clear b4y gl101 HG101
   obtain ⟨b8g, hf101_0⟩ := Kd.R_celln 0 q.out (u : Int) a7 b7
   replace a7 := eq_true a7
   replace b7 := eq_true b7
   have HP114 := Kd.R_putn q.out (u : Int) n1
   rw [← Ny356.out] at HP114
   have HQ114 := zK HP114
   clear HP114
   have e7 : 0 ≤ (u : Int) := z3
   have f7 : (u : Int) < ((D.length : Int) : Int) := z3
   obtain ⟨go103, y5, b4z, b5a, gl103, cl103, HG103⟩ := Kd.R_form B.out (by omega)
   (first | cases b4z | (injection b4z with ea_ en_ ec_; (first | subst ea_ | (injection ea_ with ea_; subst ea_)); subst ec_; clear en_))
   have GB103 := zK b5a
   have GG103 := zK HG103
   clear b5a gl103 HG103
   obtain ⟨b8j, hf103_0⟩ := Kd.R_celln 0 (Kd.R_far (p := ⟨go101, (u : Int).toNat, none⟩) (Kd.R_mono B.out (fun k_ hk => (⟨hk, fun e_ => hk.2.2 (by rw [e_]; rfl)⟩ : _ ∧ k_ ≠ go101))) (fun _ hk => hk.2) (.int .i64 n1)) (u : Int) e7 f7
   replace e7 := eq_true e7
   replace f7 := eq_true f7
   have HP115 := Kd.R_putn (Kd.R_far (p := ⟨go101, (u : Int).toNat, none⟩) (Kd.R_mono B.out (fun k_ hk => (⟨hk, fun e_ => hk.2.2 (by rw [e_]; rfl)⟩ : _ ∧ k_ ≠ go101))) (fun _ hk => hk.2) (.int .i64 n1)) (u : Int) y1
   rw [← Ny357.out] at HP115
   have HQ115 := zK HP115
   clear HP115
   refine hK.out _ _ ⟨zy a 0, zy a 1, zy a 2, zy a 3, zy a 4, zy a 5, zy l 0, zy l 1, zy l 2, zy l 3, zy l 4, zy l 5, e5, (zX HB e3:), (zX HB f3:)⟩ (fun hHeld => ?_)
   clear hK K
   refine zU 118 ?_
   refine zP 27 91 (bl 36 268435455) HT_ ?_
   refine zP 28 119 (bl 36 536870911) HT_ ?_
   refine zP 29 120 (bl 36 1073741823) HT_ ?_
   refine zP 30 121 (bl 36 2147483647) HT_ ?_
   refine zP 31 13 (bl 36 4294967295) HT_ ?_
   refine zP 32 122 (bl 36 8589934591) HT_ ?_
   refine one_ (i := 33) (N := none) (bl 36 17179869183) rfl rfl (one_of HT_.out (by kernel_rfl)) (by decide) (fun K hK => ?_)
   refine skip_ (w1 := ?_) (by rfl) rfl ?_ ?_
   rotate_left
   · go_simp
     rfl
   refine hK.out _ _ ⟨((cell_far (p := ⟨go101, u.toNat, none⟩) (fun e_ => Kd.R_ne q.out a.out (by decide) (congrArg some e_)) _).trans (hHeld.1)), ((cell_far (p := ⟨go101, u.toNat, none⟩) (fun e_ => Kd.R_ne q.out a.out (by decide) (congrArg some e_)) _).trans (hHeld.2.1)), ((cell_far (p := ⟨go101, u.toNat, none⟩) (fun e_ => Kd.R_ne q.out a.out (by decide) (congrArg some e_)) _).trans (hHeld.2.2.1)), ((cell_far (p := ⟨go101, u.toNat, none⟩) (fun e_ => Kd.R_ne q.out a.out (by decide) (congrArg some e_)) _).trans (hHeld.2.2.2.1)), ((cell_far (p := ⟨go101, u.toNat, none⟩) (fun e_ => Kd.R_ne q.out a.out (by decide) (congrArg some e_)) _).trans (hHeld.2.2.2.2.1)), ((cell_far (p := ⟨go101, u.toNat, none⟩) (fun e_ => Kd.R_ne q.out a.out (by decide) (congrArg some e_)) _).trans (hHeld.2.2.2.2.2.1)), ((cell_far (p := ⟨go101, u.toNat, none⟩) (fun e_ => Kd.R_ne q.out l.out (by decide) (congrArg some e_)) _).trans (hHeld.2.2.2.2.2.2.1)), ((cell_far (p := ⟨go101, u.toNat, none⟩) (fun e_ => Kd.R_ne q.out l.out (by decide) (congrArg some e_)) _).trans (hHeld.2.2.2.2.2.2.2.1)), ((cell_far (p := ⟨go101, u.toNat, none⟩) (fun e_ => Kd.R_ne q.out l.out (by decide) (congrArg some e_)) _).trans (hHeld.2.2.2.2.2.2.2.2.1)), ((cell_far (p := ⟨go101, u.toNat, none⟩) (fun e_ => Kd.R_ne q.out l.out (by decide) (congrArg some e_)) _).trans (hHeld.2.2.2.2.2.2.2.2.2.1)), ((cell_far (p := ⟨go101, u.toNat, none⟩) (fun e_ => Kd.R_ne q.out l.out (by decide) (congrArg some e_)) _).trans (hHeld.2.2.2.2.2.2.2.2.2.2.1)), ((cell_far (p := ⟨go101, u.toNat, none⟩) (fun e_ => Kd.R_ne q.out l.out (by decide) (congrArg some e_)) _).trans (hHeld.2.2.2.2.2.2.2.2.2.2.2.1)), ((cell_far (p := ⟨go101, u.toNat, none⟩) (by (try rw [add_block]); exact (Kd.own_blk (Kd.R_away a0.out (fun _ hk => fun e_ => (hk.2.1) (congrArg some e_))))) _).trans (hHeld.2.2.2.2.2.2.2.2.2.2.2.2.1)), ((cell_far (p := ⟨go101, u.toNat, none⟩) (Nat.ne_of_lt (Nat.lt_of_lt_of_le (by have := World.block_lt_of_cell? _ _ e3; first | rwa [add_block] at this | exact this) (Kd.R_base q.out _ rfl))) _).trans (hHeld.2.2.2.2.2.2.2.2.2.2.2.2.2.1)), ((cell_far (p := ⟨go101, u.toNat, none⟩) (Nat.ne_of_lt (Nat.lt_of_lt_of_le (by have := World.block_lt_of_cell? _ _ f3; first | rwa [add_block] at this | exact this) (Kd.R_base q.out _ rfl))) _).trans (hHeld.2.2.2.2.2.2.2.2.2.2.2.2.2.2))⟩ (fun hHeld => ?_)
   clear hK K
   refine zP 34 123 (bl 36 34359738367) HT_ ?_
   refine last_ (i := 35) (N := none) (bl 36 68719476735) rfl rfl (one_of HT_.out (by kernel_rfl)) (by decide) (fun K hK => ?_)
   refine skip_ (w1 := ?_) (by rfl) rfl ?_ ?_
   rotate_left
   · go_simp
     rfl
   refine hK.out _ _ ?_
   clear hK K
   refine done_ (done_of HT_.out (by kernel_rfl)) ?_
   try go_wp2
   have O : Aside0 (Kd.R (Kd.int .i64) 3 ((G4.setCell ⟨go101, (u : Int).toNat, none⟩ (.int .i64 n1)).setCell ⟨go103, (u : Int).toNat, none⟩ (.int .i64 y1)) w.heap.size (fun k_ => some k_ ≠ (u327000 : Value).ownBlock ∧ some k_ ≠ (.slice (some ⟨go101, 0, none⟩) E.length x5 : Value).ownBlock ∧ some k_ ≠ (.slice (some ⟨go103, 0, none⟩) D.length y5 : Value).ownBlock) (.slice (some U2) F0.length L6) F0) := ⟨Kd.R_mono (zlR (Kd.R_mono (Kd.R_mono a0.out (fun k_ hk => (⟨hk, fun e_ => hk.2.1 (by rw [e_]; rfl)⟩ : _ ∧ k_ ≠ go101))) (fun k_ hk => (⟨hk, fun e_ => hk.1.2.2 (by rw [e_]; rfl)⟩ : _ ∧ k_ ≠ go103)))) (fun _ hk => ⟨hk.1.1.1, ⟨hk.1.1.2.1, hk.1.1.2.2⟩⟩)⟩
   have T : Aside0 (Kd.R (Kd.int .i64) 3 ((G4.setCell ⟨go101, (u : Int).toNat, none⟩ (.int .i64 n1)).setCell ⟨go103, (u : Int).toNat, none⟩ (.int .i64 y1)) w.heap.size (fun k_ => some k_ ≠ (.slice (some U2) F0.length L6 : Value).ownBlock ∧ some k_ ≠ (.slice (some ⟨go101, 0, none⟩) E.length x5 : Value).ownBlock ∧ some k_ ≠ (.slice (some ⟨go103, 0, none⟩) D.length y5 : Value).ownBlock) u327000 I) := ⟨Kd.R_mono (zlR (Kd.R_mono (Kd.R_mono A.out (fun k_ hk => (⟨hk, fun e_ => hk.2.1 (by rw [e_]; rfl)⟩ : _ ∧ k_ ≠ go101))) (fun k_ hk => (⟨hk, fun e_ => hk.1.2.2 (by rw [e_]; rfl)⟩ : _ ∧ k_ ≠ go103)))) (fun _ hk => ⟨hk.1.1.1, ⟨hk.1.1.2.1, hk.1.1.2.2⟩⟩)⟩
   have U : Aside0 (Kd.R (Kd.int .i64) 3 ((G4.setCell ⟨go101, (u : Int).toNat, none⟩ (.int .i64 n1)).setCell ⟨go103, (u : Int).toNat, none⟩ (.int .i64 y1)) w.heap.size (fun k_ => some k_ ≠ (.slice (some U2) F0.length L6 : Value).ownBlock ∧ some k_ ≠ (u327000 : Value).ownBlock ∧ some k_ ≠ (.slice (some ⟨go103, 0, none⟩) D.length y5 : Value).ownBlock) (.slice (some ⟨go101, 0, none⟩) E.length x5) B3) := ⟨Kd.R_mono (zlR (Kd.R_mono HQ114.out (fun k_ hk => (⟨hk, fun e_ => hk.2.2 (by rw [e_]; rfl)⟩ : _ ∧ k_ ≠ go103)))) (fun _ hk => ⟨hk.1.1, ⟨hk.1.2.1, hk.1.2.2⟩⟩)⟩
   have X : Aside0 (Kd.R (Kd.int .i64) 3 ((G4.setCell ⟨go101, (u : Int).toNat, none⟩ (.int .i64 n1)).setCell ⟨go103, (u : Int).toNat, none⟩ (.int .i64 y1)) w.heap.size (fun k_ => some k_ ≠ (.slice (some U2) F0.length L6 : Value).ownBlock ∧ some k_ ≠ (u327000 : Value).ownBlock ∧ some k_ ≠ (.slice (some ⟨go101, 0, none⟩) E.length x5 : Value).ownBlock) (.slice (some ⟨go103, 0, none⟩) D.length y5) a5) := ⟨Kd.R_mono (zlR HQ115.out) (fun _ hk => ⟨hk.1.1, ⟨hk.1.2.1, hk.1.2.2⟩⟩)⟩
   have d0 : Aside0 (((G4.setCell ⟨go101, (u : Int).toNat, none⟩ (.int .i64 n1)).setCell ⟨go103, (u : Int).toNat, none⟩ (.int .i64 y1)).heap[i1]? = some (.cells #[.int .i64 c0, .int .i64 p0, .int .i64 q0, .int .i64 t0, .int .i64 x0, .int .i64 j0, .int .i64 m0, .int .i64 n0, .int .i64 A0, .int .i64 y0, .int .i64 b0] 35 (0, 0))) := ⟨by (with_reducible repeat (first | refine zn ?_ _ | refine zd ?_ | refine za ?_ _)); refine blk_far ?_ (by have h_ := Kd.R_ne B.out y.out (by decide); intro e_; exact h_ (by rw [e_]; rfl)) _; (with_reducible repeat (first | refine zn ?_ _ | refine zd ?_ | refine za ?_ _)); refine blk_far ?_ (by have h_ := Kd.R_ne q.out y.out (by decide); intro e_; exact h_ (by rw [e_]; rfl)) _; (with_reducible repeat (first | refine zn ?_ _ | refine zd ?_ | refine za ?_ _)); exact y.out⟩
   have e0 : Aside0 (((G4.setCell ⟨go101, (u : Int).toNat, none⟩ (.int .i64 n1)).setCell ⟨go103, (u : Int).toNat, none⟩ (.int .i64 y1)).heap[I0]? = some (.cells #[.slice (some V1) L.length a1, .slice (some b5) g0.length b1, .slice (some d5) i0.length d1, .int .i64 C0, .int .i64 B0, .int .i64 J0] 30 (0, 0))) := ⟨by (with_reducible repeat (first | refine zn ?_ _ | refine zd ?_ | refine za ?_ _)); refine blk_far ?_ (by have h_ := Kd.R_ne B.out l.out (by decide); intro e_; exact h_ (by rw [e_]; rfl)) _; (with_reducible repeat (first | refine zn ?_ _ | refine zd ?_ | refine za ?_ _)); refine blk_far ?_ (by have h_ := Kd.R_ne q.out l.out (by decide); intro e_; exact h_ (by rw [e_]; rfl)) _; (with_reducible repeat (first | refine zn ?_ _ | refine zd ?_ | refine za ?_ _)); exact l.out⟩
   have f0 : Aside0 (((G4.setCell ⟨go101, (u : Int).toNat, none⟩ (.int .i64 n1)).setCell ⟨go103, (u : Int).toNat, none⟩ (.int .i64 y1)).heap[M]? = some (.cells #[.slice none 0 0, .slice none 0 0, .slice none 0 0, .int .i64 0, .int .i64 0, .int .i64 0] 30 (0, 0))) := ⟨by (with_reducible repeat (first | refine zn ?_ _ | refine zd ?_ | refine za ?_ _)); refine blk_far ?_ (by have h_ := Kd.R_ne B.out z.out (by decide); intro e_; exact h_ (by rw [e_]; rfl)) _; (with_reducible repeat (first | refine zn ?_ _ | refine zd ?_ | refine za ?_ _)); refine blk_far ?_ (by have h_ := Kd.R_ne q.out z.out (by decide); intro e_; exact h_ (by rw [e_]; rfl)) _; (with_reducible repeat (first | refine zn ?_ _ | refine zd ?_ | refine za ?_ _)); exact z.out⟩
   have E0 : Aside0 (((G4.setCell ⟨go101, (u : Int).toNat, none⟩ (.int .i64 n1)).setCell ⟨go103, (u : Int).toNat, none⟩ (.int .i64 y1)).heap[J]? = some (.cells #[u327000, .slice (some ⟨go101, 0, none⟩) E.length x5, .slice (some ⟨go103, 0, none⟩) D.length y5, .int .i64 (wrap64 (o0 + 1)), .int .i64 D0, .int .i64 O0] 30 (0, 0))) := ⟨by (with_reducible repeat (first | refine zn ?_ _ | refine zd ?_ | refine za ?_ _)); refine blk_far ?_ (by have h_ := Kd.R_ne B.out a.out (by decide); intro e_; exact h_ (by rw [e_]; rfl)) _; (with_reducible repeat (first | refine zn ?_ _ | refine zd ?_ | refine za ?_ _)); refine blk_far ?_ (by have h_ := Kd.R_ne q.out a.out (by decide); intro e_; exact h_ (by rw [e_]; rfl)) _; (with_reducible repeat (first | refine zn ?_ _ | refine zd ?_ | refine za ?_ _)); exact a.out⟩
   have G0 : Aside0 (Below w.heap.size w ((G4.setCell ⟨go101, (u : Int).toNat, none⟩ (.int .i64 n1)).setCell ⟨go103, (u : Int).toNat, none⟩ (.int .i64 y1))) := ⟨by repeat (first | (with_reducible first | exact HB.out | apply zb | apply zw | apply ze | refine zs ?_ GB101.out | refine zs ?_ GB103.out | refine zs ?_ b2.out | refine zs ?_ d2.out | refine zs ?_ e2.out | refine zs ?_ p3.out) | exact HB.out)⟩
   (try clear a0)
   (try clear A)
   (try clear q)
   (try clear B)
   (try clear y)
   (try clear l)
   (try clear z)
   (try clear a)
   (try clear HB)
   generalize ((G4.setCell ⟨go101, (u : Int).toNat, none⟩ (.int .i64 n1)).setCell ⟨go103, (u : Int).toNat, none⟩ (.int .i64 y1)) = f2x at O T U X d0 e0 f0 E0 G0 ⊢
   revert O T U X d0 e0 f0 E0 G0
   intro a0 A q B y l z a HB
   have O := zK (Kd.R_drew a0.out)
   have T := zK (Kd.R_drew A.out)
   have U := zK (Kd.R_drew q.out)
   have X := zK (Kd.R_drew B.out)
   have d0 := zK (zd y.out)
   have e0 := zK (zd l.out)
   have f0 := zK (zd z.out)
   have E0 := zK (zd a.out)
   have G0 := zK (ze HB.out)
   revert O T U X d0 e0 f0 E0 G0
   clear a0 A q B y l z a HB
   intro a0 A q B y l z a HB
   refine start_ (n := 7) (S := fun w' => w'.cell? ⟨J, 0, none⟩ = some (u327000) ∧ w'.cell? ⟨J, 1, none⟩ = some (.slice (some ⟨go101, 0, none⟩) E.length x5) ∧ w'.cell? ⟨J, 2, none⟩ = some (.slice (some ⟨go103, 0, none⟩) D.length y5) ∧ w'.cell? ⟨J, 3, none⟩ = some (.int .i64 (wrap64 (o0 + 1))) ∧ w'.cell? ⟨J, 4, none⟩ = some (.int .i64 D0) ∧ w'.cell? ⟨J, 5, none⟩ = some (.int .i64 O0)) (ds := [6]) (bl 7 0) (by kernel_rfl) rfl (by kernel_rfl) ⟨zy a 0, zy a 1, zy a 2, zy a 3, zy a 4, zy a 5⟩ (fun hHeld => ?_)
   generalize f2x.drew = g8j at a0 A q B y l z a HB HQ114 HQ115 hHeld ⊢
   refine pure_ (i := 0) (N := some 124) (v := ?_) (a' := ?_) (bl 7 1) rfl rfl (by kernel_rfl) (fun _ _ _ h => h) (Or.inl ⟨by rfl, ?_⟩) ?_ ?_
   rotate_left
   · intro w'
     go_simp
     with_reducible rfl
   rotate_left
   · simp only [Act.put, zq1, zq2, zq3, i64_w, i32_w]
     rfl
   refine pure_ (i := 2) (N := some 126) (v := ?_) (a' := ?_) (bl 7 5) rfl rfl (by kernel_rfl) (fun _ _ _ h => h) (Or.inl ⟨by rfl, ?_⟩) ?_ ?_
   rotate_left
   · intro w'
     go_simp
     with_reducible rfl
   rotate_left
   · simp only [Act.put, zq1, zq2, zq3, i64_w, i32_w]
     rfl
   refine pure_ (i := 3) (N := some 127) (v := ?_) (a' := ?_) (bl 7 13) rfl rfl (by kernel_rfl) (fun _ _ _ h => h) (Or.inl ⟨by rfl, ?_⟩) ?_ ?_
   rotate_left
   · intro w'
     go_simp
     with_reducible rfl
   rotate_left
   · simp only [Act.put, zq1, zq2, zq3, i64_w, i32_w]
     rfl
   refine take_ (i := 1) (N := some 125) (v := ?_) (a' := ?_) (bl 7 15) rfl rfl (by kernel_rfl) (fun _ _ _ h => h) (Or.inl ⟨by rfl, ?_⟩) hHeld ?_ ?_
   rotate_left
   · rintro w' ⟨s0, s1, s2, s3, s4, s5⟩
     go_simp
     with_reducible rfl
   rotate_left
   · simp only [Act.put, zq1, zq2, zq3, i64_w, i32_w]
     rfl
   refine one_ (i := 4) (N := some 128) (bl 7 31) rfl rfl (by kernel_rfl) (by decide) (fun K hK => ?_)
   refine goes_ Try.func52 (by kernel_rfl) rfl #[.int .i64 d3, .int .i64 (-68719476736), .int .i64 68719476736] (by rfl) rfl rfl zL ?_
   with_reducible refine (impl_bring_int.calls d3 (-68719476736) 68719476736 U1 _ f1u.out).mono ?_
   rintro e g8l ⟨rfl, hb⟩
   refine ⟨_, rfl, ?_⟩
   have O := zK (Kd.R_below (zkR a0) hb)
   have T := zK (Kd.R_below (zkR A) hb)
   have U := zK (Kd.R_below (zkR q) hb)
   have X := zK (Kd.R_below (zkR B) hb)
   have d0 := z7 y hb
   have e0 := z7 l hb
   have f0 := z7 z hb
   have E0 := z7 a hb
   have G0 := z8 hb
   revert O T U X d0 e0 f0 E0 G0
   clear a0 A q B y l z a HB
   intro a0 A q B y l z a HB
   (try clear hb)
   (try clear hb2)
   (try clear hk)
   (try clear hi)
   have i7 : 0 ≤ (u : Int) := z3
   have j7 : (u : Int) < ((I.length : Int) : Int) := z3
   obtain ⟨go106, c9q, b5b, b5c, gl106, cl106, HG106⟩ := Kd.R_form A.out (by omega)
   (first | cases b5b | (injection b5b with ea_ en_ ec_; (first | subst ea_ | (injection ea_ with ea_; subst ea_)); subst ec_; clear en_))
   have GB106 := zK b5c
   have GG106 := zK HG106
   clear b5c gl106 HG106
   obtain ⟨b8l, hf106_0⟩ := Kd.R_celln 0 A.out (u : Int) i7 j7
   replace i7 := eq_true i7
   replace j7 := eq_true j7
   have HP119 := Kd.R_putn A.out (u : Int) U1
   rw [← Ny359.out] at HP119
   have HQ119 := zK HP119
   clear HP119
   refine hK.out _ _ ⟨zy a 0, zy a 1, zy a 2, zy a 3, zy a 4, zy a 5⟩ (fun hHeld => ?_)
   clear hK K
   refine zU 128 ?_
   refine pure_ (i := 5) (N := some 129) (v := ?_) (a' := ?_) (bl 7 63) rfl rfl (by kernel_rfl) (fun _ _ _ h => h) (Or.inl ⟨by rfl, ?_⟩) ?_ ?_
   rotate_left
   · intro w'
     go_simp
     with_reducible rfl
   rotate_left
   · simp only [Act.put, zq1, zq2, zq3, i64_w, i32_w]
     rfl
   refine last_ (i := 6) (N := none) (bl 7 127) rfl rfl (by kernel_rfl) (by decide) (fun K hK => ?_)
   refine skip_ (w1 := ?_) (by rfl) rfl ?_ ?_
   rotate_left
   · go_simp
     rfl
   refine hK.out _ _ ?_
   clear hK K
   refine done_ (by kernel_rfl) ?_
   try go_wp2
   go_roundg k1
   case measure => have := x6.out; omega
   case rel => exact ⟨(F0), (wrap64 (u + 1)), (l7), (B3), (a5), (.slice (some ⟨go106, 0, none⟩) I.length c9q), (.slice (some ⟨go101, 0, none⟩) E.length x5), (.slice (some ⟨go103, 0, none⟩) D.length y5), zR, H', ⟨by have := x6.out; omega⟩, ⟨Kd.R_mono (zlR (Kd.R_mono a0.out (fun k_ hk => (⟨hk, fun e_ => hk.1 (by rw [e_]; rfl)⟩ : _ ∧ k_ ≠ go106)))) (fun _ hk => ⟨hk.1.1, ⟨hk.1.2.1, hk.1.2.2⟩⟩)⟩, ⟨zkR HQ119⟩, ⟨Kd.R_mono (zlR (Kd.R_mono q.out (fun k_ hk => (⟨hk, fun e_ => hk.2.1 (by rw [e_]; rfl)⟩ : _ ∧ k_ ≠ go106)))) (fun _ hk => ⟨hk.1.1, ⟨hk.1.2.1, hk.1.2.2⟩⟩)⟩, ⟨Kd.R_mono (zlR (Kd.R_mono B.out (fun k_ hk => (⟨hk, fun e_ => hk.2.1 (by rw [e_]; rfl)⟩ : _ ∧ k_ ≠ go106)))) (fun _ hk => ⟨hk.1.1, ⟨hk.1.2.1, hk.1.2.2⟩⟩)⟩, ⟨by (with_reducible repeat (first | refine zn ?_ _ | refine zd ?_ | refine za ?_ _)); refine blk_far ?_ (by have h_ := Kd.R_ne A.out y.out (by decide); intro e_; exact h_ (by rw [e_]; rfl)) _; (with_reducible repeat (first | refine zn ?_ _ | refine zd ?_ | refine za ?_ _)); exact y.out⟩, ⟨by (with_reducible repeat (first | refine zn ?_ _ | refine zd ?_ | refine za ?_ _)); refine blk_far ?_ (by have h_ := Kd.R_ne A.out l.out (by decide); intro e_; exact h_ (by rw [e_]; rfl)) _; (with_reducible repeat (first | refine zn ?_ _ | refine zd ?_ | refine za ?_ _)); exact l.out⟩, ⟨by (with_reducible repeat (first | refine zn ?_ _ | refine zd ?_ | refine za ?_ _)); refine blk_far ?_ (by have h_ := Kd.R_ne A.out z.out (by decide); intro e_; exact h_ (by rw [e_]; rfl)) _; (with_reducible repeat (first | refine zn ?_ _ | refine zd ?_ | refine za ?_ _)); exact z.out⟩, ⟨by (with_reducible repeat (first | refine zn ?_ _ | refine zd ?_ | refine za ?_ _)); refine blk_far ?_ (by have h_ := Kd.R_ne A.out a.out (by decide); intro e_; exact h_ (by rw [e_]; rfl)) _; (with_reducible repeat (first | refine zn ?_ _ | refine zd ?_ | refine za ?_ _)); exact a.out⟩, ⟨by repeat (first | (with_reducible first | exact HB.out | apply zb | apply zw | apply ze | refine zs ?_ GB106.out | refine zs ?_ b2.out | refine zs ?_ d2.out | refine zs ?_ e2.out | refine zs ?_ p3.out) | exact HB.out)⟩⟩
 rw [if_pos n7] at H
 have c9p := z1 n7
 clear n7
 replace H := z6 H
 obtain ⟨U5, c7l, H⟩ := H
 have A68 := zK c7l
 clear c7l
 replace H := z6 H
 obtain ⟨V5, c7m, H⟩ := H
 have A69 := zK c7m
 clear c7m
 replace H := z6 H
 obtain ⟨X5, c7n, H⟩ := H
 have A70 := zK c7n
 clear c7n
 by_cases c71 : u < (F0.length : Int)
 rotate_left
 · rw [if_neg c71] at H
   exact absurd H (by simp)
 rw [if_pos c71] at H
 have g4m := z1 c71
 clear c71
 by_cases c72 : u < (g0.length : Int)
 rotate_left
 · rw [if_neg c72] at H
   exact absurd H (by simp)
 rw [if_pos c72] at H
 have g4n := z1 c72
 clear c72
 by_cases c73 : u < (i0.length : Int)
 rotate_left
 · rw [if_neg c73] at H
   exact absurd H (by simp)
 rw [if_pos c73] at H
 have g4o := z1 c73
 clear c73
 replace H := z6 H
 obtain ⟨⟨m3, o1, A1⟩, c7o, H⟩ := H
 replace H : (if u < (E.length : Int) then (if u < (D.length : Int) then ((impl_bring_int.f m3 (-68719476736) 68719476736).bind fun X1 => (if u < (I.length : Int) then (impl_StepOpt.l0 k1 F0 J1 L (L.length : Int) (wrap64 (u + 1)) c0 p0 q0 t0 x0 j0 m0 n0 A0 y0 b0 L g0 i0 C0 B0 J0 (I.set (u : Int).toNat X1) (E.set (u : Int).toNat o1) (D.set (u : Int).toNat A1) (wrap64 (o0 + 1)) D0 O0) else (none))) else (none)) else (none)) = some (r1, r2, r3, r4, r5, r6, r7) := H
 have A74 := zK c7o
 clear c7o
 by_cases c75 : u < (E.length : Int)
 rotate_left
 · rw [if_neg c75] at H
   exact absurd H (by simp)
 rw [if_pos c75] at H
 have g4p := z1 c75
 clear c75
 obtain ⟨C3, V2⟩ : ∃ y_ : List Int, y_ = (E.set (u : Int).toNat o1) := ⟨_, rfl⟩
 replace H : (if u < (D.length : Int) then ((impl_bring_int.f m3 (-68719476736) 68719476736).bind fun X1 => (if u < (I.length : Int) then (impl_StepOpt.l0 k1 F0 J1 L (L.length : Int) (wrap64 (u + 1)) c0 p0 q0 t0 x0 j0 m0 n0 A0 y0 b0 L g0 i0 C0 B0 J0 (I.set (u : Int).toNat X1) C3 (D.set (u : Int).toNat A1) (wrap64 (o0 + 1)) D0 O0) else (none))) else (none)) = some (r1, r2, r3, r4, r5, r6, r7) := by first | (rw [V2]; with_reducible exact H) | (have m1 := (Option.bind_some _ _).symm.trans H; rw [V2]; with_reducible exact m1) | (have m1 := (Option.bind_some _ _).symm.trans H; with_reducible exact m1) | with_reducible exact H | (rw [V2]; exact H) | exact H
 have Ny346 := zK V2
 clear V2
 by_cases c77 : u < (D.length : Int)
 rotate_left
 · rw [if_neg c77] at H
   exact absurd H (by simp)
 rw [if_pos c77] at H
 have g4q := z1 c77
 clear c77
 obtain ⟨i5, X2⟩ : ∃ y_ : List Int, y_ = (D.set (u : Int).toNat A1) := ⟨_, rfl⟩
 replace H : ((impl_bring_int.f m3 (-68719476736) 68719476736).bind fun X1 => (if u < (I.length : Int) then (impl_StepOpt.l0 k1 F0 J1 L (L.length : Int) (wrap64 (u + 1)) c0 p0 q0 t0 x0 j0 m0 n0 A0 y0 b0 L g0 i0 C0 B0 J0 (I.set (u : Int).toNat X1) C3 i5 (wrap64 (o0 + 1)) D0 O0) else (none))) = some (r1, r2, r3, r4, r5, r6, r7) := by first | (rw [X2]; with_reducible exact H) | (have m1 := (Option.bind_some _ _).symm.trans H; rw [X2]; with_reducible exact m1) | (have m1 := (Option.bind_some _ _).symm.trans H; with_reducible exact m1) | with_reducible exact H | (rw [X2]; exact H) | exact H
 have Ny347 := zK X2
 clear X2
 replace H := z6 H
 obtain ⟨X1, c7p, H⟩ := H
 have A79 := zK c7p
 clear c7p
 by_cases c80 : u < (I.length : Int)
 rotate_left
 · rw [if_neg c80] at H
   exact absurd H (by simp)
 rw [if_pos c80] at H
 have g4s := z1 c80
 clear c80
 obtain ⟨m7, a3⟩ : ∃ y_ : List Int, y_ = (I.set (u : Int).toNat X1) := ⟨_, rfl⟩
 replace H : (impl_StepOpt.l0 k1 F0 J1 L (L.length : Int) (wrap64 (u + 1)) c0 p0 q0 t0 x0 j0 m0 n0 A0 y0 b0 L g0 i0 C0 B0 J0 m7 C3 i5 (wrap64 (o0 + 1)) D0 O0) = some (r1, r2, r3, r4, r5, r6, r7) := by first | (rw [a3]; with_reducible exact H) | (have m1 := (Option.bind_some _ _).symm.trans H; rw [a3]; with_reducible exact m1) | (have m1 := (Option.bind_some _ _).symm.trans H; with_reducible exact m1) | with_reducible exact H | (rw [a3]; exact H) | exact H
 have Ny349 := zK a3
 clear a3
 have H' := zK H
 clear H
 have E2 : 0 ≤ (u : Int) := z3
 have F2 : u < (L.length : Int) := z3
 obtain ⟨V1, L5, M1⟩ := Kd.at_int f2.out u E2 F2
 cases L5
 (try replace M1 := zX HB M1)
 replace E2 := eq_true E2
 replace F2 := eq_true F2
 have g4t := R0.out
 have g4u := S0.out
 have g4x := T0.out
 have g4y := U0.out
 have g4z := j1.out
 have g5a := l1.out
 obtain ⟨f3j, f3l, f3m, f3n, f3o, f3p, f3q, f3s, f3t, f3u, f2y, f3x, f3y, f3z, f4a, f4b, f4c, f4d, f4e, f4f, f4g, f2z⟩ := zc11 y
 try go_wp2_with (first | ((with_reducible refine gc 48 rfl ?_); refine zF 86 Try.func48 #[.int .i64 (wrap64 (A0 * (rd L u))), .int .i64 65536] rfl zL ?_; (with_reducible refine (impl_Near.calls (wrap64 (A0 * (rd L u))) 65536 U5 _ A68.out).mono ?_); rintro e w' ⟨rfl, ⟨nd, rfl⟩⟩; refine ⟨_, rfl, ?_⟩; (try (rw [drewN_self wr]; generalize hq_ : World.drewN wr _ = wr; have O : Aside0 (Kd.R (Kd.int .i64) 3 wr w.heap.size (fun k_ => (some k_ ≠ (v332 : Value).ownBlock ∧ (some k_ ≠ (u327001 : Value).ownBlock ∧ some k_ ≠ (u327002 : Value).ownBlock))) u327000 I) := ⟨by rw [← hq_]; exact zkR A⟩; have T : Aside0 (Kd.R (Kd.int .i64) 3 wr w.heap.size (fun k_ => (some k_ ≠ (v332 : Value).ownBlock ∧ (some k_ ≠ (u327000 : Value).ownBlock ∧ some k_ ≠ (u327002 : Value).ownBlock))) u327001 E) := ⟨by rw [← hq_]; exact zkR q⟩; have U : Aside0 (Kd.R (Kd.int .i64) 3 wr w.heap.size (fun k_ => (some k_ ≠ (v332 : Value).ownBlock ∧ (some k_ ≠ (u327000 : Value).ownBlock ∧ some k_ ≠ (u327001 : Value).ownBlock))) u327002 D) := ⟨by rw [← hq_]; exact zkR B⟩; have X : Aside0 (Kd.R (Kd.int .i64) 3 wr w.heap.size (fun k_ => (some k_ ≠ (u327000 : Value).ownBlock ∧ (some k_ ≠ (u327001 : Value).ownBlock ∧ some k_ ≠ (u327002 : Value).ownBlock))) v332 F0) := ⟨by rw [← hq_]; exact zkR a0⟩; have d0 : Aside0 (wr.heap[i1]? = some (.cells #[.int .i64 c0, .int .i64 p0, .int .i64 q0, .int .i64 t0, .int .i64 x0, .int .i64 j0, .int .i64 m0, .int .i64 n0, .int .i64 A0, .int .i64 y0, .int .i64 b0] 35 (0, 0))) := ⟨by rw [← hq_]; exact (zM y)⟩; have e0 : Aside0 (wr.heap[I0]? = some (.cells #[.slice (some V1) L.length a1, .slice t1 g0.length b1, .slice x1 i0.length d1, .int .i64 C0, .int .i64 B0, .int .i64 J0] 30 (0, 0))) := ⟨by rw [← hq_]; exact (zM l)⟩; have f0 : Aside0 (wr.heap[M]? = some (.cells #[.slice none 0 0, .slice none 0 0, .slice none 0 0, .int .i64 0, .int .i64 0, .int .i64 0] 30 (0, 0))) := ⟨by rw [← hq_]; exact (zM z)⟩; have E0 : Aside0 (wr.heap[J]? = some (.cells #[u327000, u327001, u327002, .int .i64 (wrap64 (o0 + 1)), .int .i64 D0, .int .i64 O0] 30 (0, 0))) := ⟨by rw [← hq_]; exact (zM a)⟩; have G0 : Aside0 (Below w.heap.size w wr) := ⟨by rw [← hq_]; exact zB⟩; clear A q B a0 y l z a HB hq_; revert O T U X d0 e0 f0 E0 G0; intro A q B a0 y l z a HB))) | ((with_reducible refine gc 48 rfl ?_); refine zF 88 Try.func48 #[.int .i64 (wrap64 (J1 * U5)), .int .i64 65536] rfl zL ?_; (with_reducible refine (impl_Near.calls (wrap64 (J1 * U5)) 65536 V5 _ A69.out).mono ?_); rintro e w' ⟨rfl, ⟨nd, rfl⟩⟩; refine ⟨_, rfl, ?_⟩; (try (rw [drewN_self wr]; generalize hq_ : World.drewN wr _ = wr; have O : Aside0 (Kd.R (Kd.int .i64) 3 wr w.heap.size (fun k_ => (some k_ ≠ (v332 : Value).ownBlock ∧ (some k_ ≠ (u327001 : Value).ownBlock ∧ some k_ ≠ (u327002 : Value).ownBlock))) u327000 I) := ⟨by rw [← hq_]; exact zkR A⟩; have T : Aside0 (Kd.R (Kd.int .i64) 3 wr w.heap.size (fun k_ => (some k_ ≠ (v332 : Value).ownBlock ∧ (some k_ ≠ (u327000 : Value).ownBlock ∧ some k_ ≠ (u327002 : Value).ownBlock))) u327001 E) := ⟨by rw [← hq_]; exact zkR q⟩; have U : Aside0 (Kd.R (Kd.int .i64) 3 wr w.heap.size (fun k_ => (some k_ ≠ (v332 : Value).ownBlock ∧ (some k_ ≠ (u327000 : Value).ownBlock ∧ some k_ ≠ (u327001 : Value).ownBlock))) u327002 D) := ⟨by rw [← hq_]; exact zkR B⟩; have X : Aside0 (Kd.R (Kd.int .i64) 3 wr w.heap.size (fun k_ => (some k_ ≠ (u327000 : Value).ownBlock ∧ (some k_ ≠ (u327001 : Value).ownBlock ∧ some k_ ≠ (u327002 : Value).ownBlock))) v332 F0) := ⟨by rw [← hq_]; exact zkR a0⟩; have d0 : Aside0 (wr.heap[i1]? = some (.cells #[.int .i64 c0, .int .i64 p0, .int .i64 q0, .int .i64 t0, .int .i64 x0, .int .i64 j0, .int .i64 m0, .int .i64 n0, .int .i64 A0, .int .i64 y0, .int .i64 b0] 35 (0, 0))) := ⟨by rw [← hq_]; exact (zM y)⟩; have e0 : Aside0 (wr.heap[I0]? = some (.cells #[.slice (some V1) L.length a1, .slice t1 g0.length b1, .slice x1 i0.length d1, .int .i64 C0, .int .i64 B0, .int .i64 J0] 30 (0, 0))) := ⟨by rw [← hq_]; exact (zM l)⟩; have f0 : Aside0 (wr.heap[M]? = some (.cells #[.slice none 0 0, .slice none 0 0, .slice none 0 0, .int .i64 0, .int .i64 0, .int .i64 0] 30 (0, 0))) := ⟨by rw [← hq_]; exact (zM z)⟩; have E0 : Aside0 (wr.heap[J]? = some (.cells #[u327000, u327001, u327002, .int .i64 (wrap64 (o0 + 1)), .int .i64 D0, .int .i64 O0] 30 (0, 0))) := ⟨by rw [← hq_]; exact (zM a)⟩; have G0 : Aside0 (Below w.heap.size w wr) := ⟨by rw [← hq_]; exact zB⟩; clear A q B a0 y l z a HB hq_; revert O T U X d0 e0 f0 E0 G0; intro A q B a0 y l z a HB))) | ((with_reducible refine gc 52 rfl ?_); refine zF 90 Try.func52 #[.int .i64 (wrap64 ((rd L u) - V5)), .int .i64 (-68719476736), .int .i64 68719476736] rfl zL ?_; (with_reducible refine (impl_bring_int.calls (wrap64 ((rd L u) - V5)) (-68719476736) 68719476736 X5 _ A70.out).mono ?_); rintro e w86 ⟨rfl, hb⟩; refine ⟨_, rfl, ?_⟩; have O := zK (Kd.R_below (zkR a0) hb); have T := zK (Kd.R_below (zkR A) hb); have U := zK (Kd.R_below (zkR q) hb); have X := zK (Kd.R_below (zkR B) hb); have d0 := z7 y hb; have e0 := z7 l hb; have f0 := z7 z hb; have E0 := z7 a hb; have G0 := z8 hb; revert O T U X d0 e0 f0 E0 G0; clear a0 A q B y l z a HB; intro a0 A q B y l z a HB))
 have O := zK (Kd.R_drew a0.out)
 have T := zK (Kd.R_drew A.out)
 have U := zK (Kd.R_drew q.out)
 have X := zK (Kd.R_drew B.out)
 have d0 := zK (zd y.out)
 have e0 := zK (zd l.out)
 have f0 := zK (zd z.out)
 have E0 := zK (zd a.out)
 have G0 := zK (ze HB.out)
 revert O T U X d0 e0 f0 E0 G0
 clear a0 A q B y l z a HB
 intro a0 A q B y l z a HB
 obtain ⟨g8m, S7, c7q⟩ := Kd.R_slice a0.out
 (first | subst c7q | (injection c7q with f1_ f2_ f3_; have f4_ := f1_.symm; have f5_ := f3_.symm; clear f1_ f2_ f3_; subst f4_; subst f5_))
 have a6 : 0 ≤ (u : Int) := z3
 have b6 : u < (F0.length : Int) := z3
 obtain ⟨b3, b2b, J4⟩ := Kd.at_int (Kd.R_reads' a0.out).2.2 u a6 b6
 cases b2b
 replace a6 := eq_true a6
 replace b6 := eq_true b6
 have d6 : 0 ≤ (u : Int) := z3
 have e6 : u < (g0.length : Int) := z3
 obtain ⟨j5, b2c, n2⟩ := Kd.at_int g2.out u d6 e6
 have n3 := n2
 cases b2c
 (try replace n2 := zX HB n2)
 replace d6 := eq_true d6
 replace e6 := eq_true e6
 have f6 : 0 ≤ (u : Int) := z3
 have g6 : u < (i0.length : Int) := z3
 obtain ⟨l5, b2d, o2⟩ := Kd.at_int i2.out u f6 g6
 have o3 := o2
 cases b2d
 (try replace o2 := zX HB o2)
 replace f6 := eq_true f6
 replace g6 := eq_true g6
 refine start_ (n := 36) (S := fun w' => w'.cell? ⟨J, 0, none⟩ = some (u327000) ∧ w'.cell? ⟨J, 1, none⟩ = some (u327001) ∧ w'.cell? ⟨J, 2, none⟩ = some (u327002) ∧ w'.cell? ⟨J, 3, none⟩ = some (.int .i64 (wrap64 (o0 + 1))) ∧ w'.cell? ⟨J, 4, none⟩ = some (.int .i64 D0) ∧ w'.cell? ⟨J, 5, none⟩ = some (.int .i64 O0) ∧ w'.cell? ⟨I0, 0, none⟩ = some (.slice (some V1) L.length a1) ∧ w'.cell? ⟨I0, 1, none⟩ = some (.slice (some j5) g0.length b1) ∧ w'.cell? ⟨I0, 2, none⟩ = some (.slice (some l5) i0.length d1) ∧ w'.cell? ⟨I0, 3, none⟩ = some (.int .i64 C0) ∧ w'.cell? ⟨I0, 4, none⟩ = some (.int .i64 B0) ∧ w'.cell? ⟨I0, 5, none⟩ = some (.int .i64 J0) ∧ w'.cell? (b3.add (u).toNat) = some (.int .i64 (rd F0 u)) ∧ w'.cell? (j5.add (u).toNat) = some (.int .i64 (rd g0 u)) ∧ w'.cell? (l5.add (u).toNat) = some (.int .i64 (rd i0 u))) (ds := [35]) (bl 36 0) (by kernel_rfl) rfl (by kernel_rfl) ⟨zy a 0, zy a 1, zy a 2, zy a 3, zy a 4, zy a 5, zy l 0, zy l 1, zy l 2, zy l 3, zy l 4, zy l 5, J4, (zX HB n3:), (zX HB o3:)⟩ (fun hHeld => ?_); refine with_tabW impl_StepOpt.tab19 impl_StepOpt.bits19 (fun HT_ HW_ => ?_)
 generalize w86.drew = w87 at a0 A q B y l z a HB J4 n2 o2 hHeld ⊢
 refine zP 0 92 (bl 36 1) HT_ ?_
 refine zP 2 94 (bl 36 5) HT_ ?_
 refine zP 3 95 (bl 36 13) HT_ ?_
 refine zP 5 97 (bl 36 45) HT_ ?_
 refine zP 6 98 (bl 36 109) HT_ ?_
 refine zP 7 99 (bl 36 237) HT_ ?_
 refine zP 8 100 (bl 36 493) HT_ ?_
 refine zP 9 101 (bl 36 1005) HT_ ?_
 refine zP 10 102 (bl 36 2029) HT_ ?_
 refine zP 12 104 (bl 36 6125) HT_ ?_
 refine zP 13 105 (bl 36 14317) HT_ ?_
 refine zP 15 107 (bl 36 47085) HT_ ?_
 refine zP 18 110 (bl 36 309229) HT_ ?_
 refine zP 20 112 (bl 36 1357805) HT_ ?_
 refine zP 23 115 (bl 36 9746413) HT_ ?_
 refine zP 24 116 (bl 36 26523629) HT_ ?_ (hr := by intro w'; go_simp; rw [StepP.nilA]; rfl)
 refine zP 25 117 (bl 36 60078061) HT_ ?_
 refine zT 1 93 (bl 36 60078063) rfl rfl HT_ HW_ hHeld (by rintro w' ⟨s0, s1, s2, s3, s4, s5, s6, s7, s8, s9, N1, O1, R1, S1, T1⟩; go_simp; with_reducible rfl) ?_
 refine zT 4 96 (bl 36 60078079) rfl rfl HT_ HW_ hHeld (by rintro w' ⟨s0, s1, s2, s3, s4, s5, s6, s7, s8, s9, N1, O1, R1, S1, T1⟩; go_simp; with_reducible rfl) ?_
 refine zT 11 103 (bl 36 60080127) rfl rfl HT_ HW_ hHeld (by rintro w' ⟨s0, s1, s2, s3, s4, s5, s6, s7, s8, s9, N1, O1, R1, S1, T1⟩; go_simp; with_reducible rfl) ?_
 refine zT 14 106 (bl 36 60096511) rfl rfl HT_ HW_ hHeld (by rintro w' ⟨s0, s1, s2, s3, s4, s5, s6, s7, s8, s9, N1, O1, R1, S1, T1⟩; go_simp; with_reducible rfl) ?_
 refine zP 16 108 (bl 36 60162047) HT_ ?_
 refine zT 17 109 (bl 36 60293119) rfl rfl HT_ HW_ hHeld (by rintro w' ⟨s0, s1, s2, s3, s4, s5, s6, s7, s8, s9, N1, O1, R1, S1, T1⟩; go_simp; with_reducible rfl) ?_
 refine zT 19 111 (bl 36 60817407) rfl rfl HT_ HW_ hHeld (by rintro w' ⟨s0, s1, s2, s3, s4, s5, s6, s7, s8, s9, N1, O1, R1, S1, T1⟩; go_simp; with_reducible rfl) ?_
 refine zP 21 113 (bl 36 62914559) HT_ ?_
 refine zT 22 114 (bl 36 67108863) rfl rfl HT_ HW_ hHeld (by rintro w' ⟨s0, s1, s2, s3, s4, s5, s6, s7, s8, s9, N1, O1, R1, S1, T1⟩; go_simp; with_reducible rfl) ?_
 refine one_ (i := 26) (N := some 118) (bl 36 134217727) rfl rfl (one_of HT_.out (by kernel_rfl)) (by decide) (fun K hK => ?_)
 refine call_ (StepP.moverN c0) #[StepP.moverX c0 j0 m0 n0, .int .i64 J1, .int .i64 (rd F0 u), .int .i64 X5, .int .i64 (rd g0 u), .int .i64 (rd i0 u)] (by rfl) rfl (by first | exact StepP.inv c0 j0 m0 n0 _ _ _ _ _ _ | (unfold execOp; simp [resolve, Act.eval]; exact StepP.inv c0 j0 m0 n0 _ _ _ _ _ _)) ?_
 with_reducible refine (StepP.moved k1 c0 j0 m0 n0 J1 (rd F0 u) X5 (rd g0 u) (rd i0 u) m3 o1 A1 _ (by with_unfolding_all exact A74.out)).mono ?_
 rintro e G5 ⟨rfl, hb⟩
 have e5 := (hb.cell (World.block_lt_of_cell? _ _ (hHeld.2.2.2.2.2.2.2.2.2.2.2.2.1))).trans (hHeld.2.2.2.2.2.2.2.2.2.2.2.2.1)
 refine ⟨_, rfl, ?_⟩
 have O := zK (Kd.R_below (zkR a0) hb)
 have T := zK (Kd.R_below (zkR A) hb)
 have U := zK (Kd.R_below (zkR q) hb)
 have X := zK (Kd.R_below (zkR B) hb)
 have d0 := z7 y hb
 have e0 := z7 l hb
 have f0 := z7 z hb
 have E0 := z7 a hb
 have G0 := z8 hb
 revert O T U X d0 e0 f0 E0 G0
 clear a0 A q B y l z a HB
 intro a0 A q B y l z a HB
 (try clear hb)
 (try clear hb2)
 (try clear hk)
 (try clear hi)
 have p76 : 0 ≤ (u : Int) := z3
 have q76 : (u : Int) < ((E.length : Int) : Int) := z3
 obtain ⟨go76, q6, c7u, c7x, gl76, cl76, HG76⟩ := Kd.R_form q.out (by omega)
 (first | cases c7u | (injection c7u with ea_ en_ ec_; (first | subst ea_ | (injection ea_ with ea_; subst ea_)); subst ec_; clear en_))
 have GB76 := zK c7x
 have GG76 := zK HG76
 clear c7x gl76 HG76
 obtain ⟨g2u, hf76_0⟩ := Kd.R_celln 0 q.out (u : Int) p76 q76
 replace p76 := eq_true p76
 replace q76 := eq_true q76
 have HP90 := Kd.R_putn q.out (u : Int) o1
 rw [← Ny346.out] at HP90
 have HQ90 := zK HP90
 clear HP90
 have p78 : 0 ≤ (u : Int) := z3
 have q78 : (u : Int) < ((D.length : Int) : Int) := z3
 obtain ⟨go78, t6, c8a, c8b, gl78, cl78, HG78⟩ := Kd.R_form B.out (by omega)
 (first | cases c8a | (injection c8a with ea_ en_ ec_; (first | subst ea_ | (injection ea_ with ea_; subst ea_)); subst ec_; clear en_))
 have GB78 := zK c8b
 have GG78 := zK HG78
 clear c8b gl78 HG78
 obtain ⟨g2x, hf78_0⟩ := Kd.R_celln 0 (Kd.R_far (p := ⟨go76, (u : Int).toNat, none⟩) (Kd.R_mono B.out (fun k_ hk => (⟨hk, fun e_ => hk.2.2 (by rw [e_]; rfl)⟩ : _ ∧ k_ ≠ go76))) (fun _ hk => hk.2) (.int .i64 o1)) (u : Int) p78 q78
 replace p78 := eq_true p78
 replace q78 := eq_true q78
 have HP91 := Kd.R_putn (Kd.R_far (p := ⟨go76, (u : Int).toNat, none⟩) (Kd.R_mono B.out (fun k_ hk => (⟨hk, fun e_ => hk.2.2 (by rw [e_]; rfl)⟩ : _ ∧ k_ ≠ go76))) (fun _ hk => hk.2) (.int .i64 o1)) (u : Int) A1
 rw [← Ny347.out] at HP91
 have HQ91 := zK HP91
 clear HP91
 refine hK.out _ _ ⟨zy a 0, zy a 1, zy a 2, zy a 3, zy a 4, zy a 5, zy l 0, zy l 1, zy l 2, zy l 3, zy l 4, zy l 5, e5, (zX HB n3:), (zX HB o3:)⟩ (fun hHeld => ?_)
 clear hK K
 refine zU 118 ?_
 refine zP 27 91 (bl 36 268435455) HT_ ?_
 refine zP 28 119 (bl 36 536870911) HT_ ?_
 refine zP 29 120 (bl 36 1073741823) HT_ ?_
 refine zP 30 121 (bl 36 2147483647) HT_ ?_
 refine zP 31 13 (bl 36 4294967295) HT_ ?_
 refine zP 32 122 (bl 36 8589934591) HT_ ?_
 refine one_ (i := 33) (N := none) (bl 36 17179869183) rfl rfl (one_of HT_.out (by kernel_rfl)) (by decide) (fun K hK => ?_)
 refine skip_ (w1 := ?_) (by rfl) rfl ?_ ?_
 rotate_left
 · go_simp
   rfl
 refine hK.out _ _ ⟨((cell_far (p := ⟨go76, u.toNat, none⟩) (fun e_ => Kd.R_ne q.out a.out (by decide) (congrArg some e_)) _).trans (hHeld.1)), ((cell_far (p := ⟨go76, u.toNat, none⟩) (fun e_ => Kd.R_ne q.out a.out (by decide) (congrArg some e_)) _).trans (hHeld.2.1)), ((cell_far (p := ⟨go76, u.toNat, none⟩) (fun e_ => Kd.R_ne q.out a.out (by decide) (congrArg some e_)) _).trans (hHeld.2.2.1)), ((cell_far (p := ⟨go76, u.toNat, none⟩) (fun e_ => Kd.R_ne q.out a.out (by decide) (congrArg some e_)) _).trans (hHeld.2.2.2.1)), ((cell_far (p := ⟨go76, u.toNat, none⟩) (fun e_ => Kd.R_ne q.out a.out (by decide) (congrArg some e_)) _).trans (hHeld.2.2.2.2.1)), ((cell_far (p := ⟨go76, u.toNat, none⟩) (fun e_ => Kd.R_ne q.out a.out (by decide) (congrArg some e_)) _).trans (hHeld.2.2.2.2.2.1)), ((cell_far (p := ⟨go76, u.toNat, none⟩) (fun e_ => Kd.R_ne q.out l.out (by decide) (congrArg some e_)) _).trans (hHeld.2.2.2.2.2.2.1)), ((cell_far (p := ⟨go76, u.toNat, none⟩) (fun e_ => Kd.R_ne q.out l.out (by decide) (congrArg some e_)) _).trans (hHeld.2.2.2.2.2.2.2.1)), ((cell_far (p := ⟨go76, u.toNat, none⟩) (fun e_ => Kd.R_ne q.out l.out (by decide) (congrArg some e_)) _).trans (hHeld.2.2.2.2.2.2.2.2.1)), ((cell_far (p := ⟨go76, u.toNat, none⟩) (fun e_ => Kd.R_ne q.out l.out (by decide) (congrArg some e_)) _).trans (hHeld.2.2.2.2.2.2.2.2.2.1)), ((cell_far (p := ⟨go76, u.toNat, none⟩) (fun e_ => Kd.R_ne q.out l.out (by decide) (congrArg some e_)) _).trans (hHeld.2.2.2.2.2.2.2.2.2.2.1)), ((cell_far (p := ⟨go76, u.toNat, none⟩) (fun e_ => Kd.R_ne q.out l.out (by decide) (congrArg some e_)) _).trans (hHeld.2.2.2.2.2.2.2.2.2.2.2.1)), ((cell_far (p := ⟨go76, u.toNat, none⟩) (by (try rw [add_block]); exact (Kd.own_blk (Kd.R_away a0.out (fun _ hk => fun e_ => (hk.2.1) (congrArg some e_))))) _).trans (hHeld.2.2.2.2.2.2.2.2.2.2.2.2.1)), ((cell_far (p := ⟨go76, u.toNat, none⟩) (Nat.ne_of_lt (Nat.lt_of_lt_of_le (by have := World.block_lt_of_cell? _ _ n3; first | rwa [add_block] at this | exact this) (Kd.R_base q.out _ rfl))) _).trans (hHeld.2.2.2.2.2.2.2.2.2.2.2.2.2.1)), ((cell_far (p := ⟨go76, u.toNat, none⟩) (Nat.ne_of_lt (Nat.lt_of_lt_of_le (by have := World.block_lt_of_cell? _ _ o3; first | rwa [add_block] at this | exact this) (Kd.R_base q.out _ rfl))) _).trans (hHeld.2.2.2.2.2.2.2.2.2.2.2.2.2.2))⟩ (fun hHeld => ?_)
 clear hK K
 refine zP 34 123 (bl 36 34359738367) HT_ ?_
 refine last_ (i := 35) (N := none) (bl 36 68719476735) rfl rfl (one_of HT_.out (by kernel_rfl)) (by decide) (fun K hK => ?_)
 refine skip_ (w1 := ?_) (by rfl) rfl ?_ ?_
 rotate_left
 · go_simp
   rfl
 refine hK.out _ _ ?_
 clear hK K
 refine done_ (done_of HT_.out (by kernel_rfl)) ?_
 try go_wp2
 have O : Aside0 (Kd.R (Kd.int .i64) 3 ((G5.setCell ⟨go76, (u : Int).toNat, none⟩ (.int .i64 o1)).setCell ⟨go78, (u : Int).toNat, none⟩ (.int .i64 A1)) w.heap.size (fun k_ => some k_ ≠ (u327000 : Value).ownBlock ∧ some k_ ≠ (.slice (some ⟨go76, 0, none⟩) E.length q6 : Value).ownBlock ∧ some k_ ≠ (.slice (some ⟨go78, 0, none⟩) D.length t6 : Value).ownBlock) (.slice (some b3) F0.length S7) F0) := ⟨Kd.R_mono (zlR (Kd.R_mono (Kd.R_mono a0.out (fun k_ hk => (⟨hk, fun e_ => hk.2.1 (by rw [e_]; rfl)⟩ : _ ∧ k_ ≠ go76))) (fun k_ hk => (⟨hk, fun e_ => hk.1.2.2 (by rw [e_]; rfl)⟩ : _ ∧ k_ ≠ go78)))) (fun _ hk => ⟨hk.1.1.1, ⟨hk.1.1.2.1, hk.1.1.2.2⟩⟩)⟩
 have T : Aside0 (Kd.R (Kd.int .i64) 3 ((G5.setCell ⟨go76, (u : Int).toNat, none⟩ (.int .i64 o1)).setCell ⟨go78, (u : Int).toNat, none⟩ (.int .i64 A1)) w.heap.size (fun k_ => some k_ ≠ (.slice (some b3) F0.length S7 : Value).ownBlock ∧ some k_ ≠ (.slice (some ⟨go76, 0, none⟩) E.length q6 : Value).ownBlock ∧ some k_ ≠ (.slice (some ⟨go78, 0, none⟩) D.length t6 : Value).ownBlock) u327000 I) := ⟨Kd.R_mono (zlR (Kd.R_mono (Kd.R_mono A.out (fun k_ hk => (⟨hk, fun e_ => hk.2.1 (by rw [e_]; rfl)⟩ : _ ∧ k_ ≠ go76))) (fun k_ hk => (⟨hk, fun e_ => hk.1.2.2 (by rw [e_]; rfl)⟩ : _ ∧ k_ ≠ go78)))) (fun _ hk => ⟨hk.1.1.1, ⟨hk.1.1.2.1, hk.1.1.2.2⟩⟩)⟩
 have U : Aside0 (Kd.R (Kd.int .i64) 3 ((G5.setCell ⟨go76, (u : Int).toNat, none⟩ (.int .i64 o1)).setCell ⟨go78, (u : Int).toNat, none⟩ (.int .i64 A1)) w.heap.size (fun k_ => some k_ ≠ (.slice (some b3) F0.length S7 : Value).ownBlock ∧ some k_ ≠ (u327000 : Value).ownBlock ∧ some k_ ≠ (.slice (some ⟨go78, 0, none⟩) D.length t6 : Value).ownBlock) (.slice (some ⟨go76, 0, none⟩) E.length q6) C3) := ⟨Kd.R_mono (zlR (Kd.R_mono HQ90.out (fun k_ hk => (⟨hk, fun e_ => hk.2.2 (by rw [e_]; rfl)⟩ : _ ∧ k_ ≠ go78)))) (fun _ hk => ⟨hk.1.1, ⟨hk.1.2.1, hk.1.2.2⟩⟩)⟩
 have X : Aside0 (Kd.R (Kd.int .i64) 3 ((G5.setCell ⟨go76, (u : Int).toNat, none⟩ (.int .i64 o1)).setCell ⟨go78, (u : Int).toNat, none⟩ (.int .i64 A1)) w.heap.size (fun k_ => some k_ ≠ (.slice (some b3) F0.length S7 : Value).ownBlock ∧ some k_ ≠ (u327000 : Value).ownBlock ∧ some k_ ≠ (.slice (some ⟨go76, 0, none⟩) E.length q6 : Value).ownBlock) (.slice (some ⟨go78, 0, none⟩) D.length t6) i5) := ⟨Kd.R_mono (zlR HQ91.out) (fun _ hk => ⟨hk.1.1, ⟨hk.1.2.1, hk.1.2.2⟩⟩)⟩
 have d0 : Aside0 (((G5.setCell ⟨go76, (u : Int).toNat, none⟩ (.int .i64 o1)).setCell ⟨go78, (u : Int).toNat, none⟩ (.int .i64 A1)).heap[i1]? = some (.cells #[.int .i64 c0, .int .i64 p0, .int .i64 q0, .int .i64 t0, .int .i64 x0, .int .i64 j0, .int .i64 m0, .int .i64 n0, .int .i64 A0, .int .i64 y0, .int .i64 b0] 35 (0, 0))) := ⟨by (with_reducible repeat (first | refine zn ?_ _ | refine zd ?_ | refine za ?_ _)); refine blk_far ?_ (by have h_ := Kd.R_ne B.out y.out (by decide); intro e_; exact h_ (by rw [e_]; rfl)) _; (with_reducible repeat (first | refine zn ?_ _ | refine zd ?_ | refine za ?_ _)); refine blk_far ?_ (by have h_ := Kd.R_ne q.out y.out (by decide); intro e_; exact h_ (by rw [e_]; rfl)) _; (with_reducible repeat (first | refine zn ?_ _ | refine zd ?_ | refine za ?_ _)); exact y.out⟩
 have e0 : Aside0 (((G5.setCell ⟨go76, (u : Int).toNat, none⟩ (.int .i64 o1)).setCell ⟨go78, (u : Int).toNat, none⟩ (.int .i64 A1)).heap[I0]? = some (.cells #[.slice (some V1) L.length a1, .slice (some j5) g0.length b1, .slice (some l5) i0.length d1, .int .i64 C0, .int .i64 B0, .int .i64 J0] 30 (0, 0))) := ⟨by (with_reducible repeat (first | refine zn ?_ _ | refine zd ?_ | refine za ?_ _)); refine blk_far ?_ (by have h_ := Kd.R_ne B.out l.out (by decide); intro e_; exact h_ (by rw [e_]; rfl)) _; (with_reducible repeat (first | refine zn ?_ _ | refine zd ?_ | refine za ?_ _)); refine blk_far ?_ (by have h_ := Kd.R_ne q.out l.out (by decide); intro e_; exact h_ (by rw [e_]; rfl)) _; (with_reducible repeat (first | refine zn ?_ _ | refine zd ?_ | refine za ?_ _)); exact l.out⟩
 have f0 : Aside0 (((G5.setCell ⟨go76, (u : Int).toNat, none⟩ (.int .i64 o1)).setCell ⟨go78, (u : Int).toNat, none⟩ (.int .i64 A1)).heap[M]? = some (.cells #[.slice none 0 0, .slice none 0 0, .slice none 0 0, .int .i64 0, .int .i64 0, .int .i64 0] 30 (0, 0))) := ⟨by (with_reducible repeat (first | refine zn ?_ _ | refine zd ?_ | refine za ?_ _)); refine blk_far ?_ (by have h_ := Kd.R_ne B.out z.out (by decide); intro e_; exact h_ (by rw [e_]; rfl)) _; (with_reducible repeat (first | refine zn ?_ _ | refine zd ?_ | refine za ?_ _)); refine blk_far ?_ (by have h_ := Kd.R_ne q.out z.out (by decide); intro e_; exact h_ (by rw [e_]; rfl)) _; (with_reducible repeat (first | refine zn ?_ _ | refine zd ?_ | refine za ?_ _)); exact z.out⟩
 have E0 : Aside0 (((G5.setCell ⟨go76, (u : Int).toNat, none⟩ (.int .i64 o1)).setCell ⟨go78, (u : Int).toNat, none⟩ (.int .i64 A1)).heap[J]? = some (.cells #[u327000, .slice (some ⟨go76, 0, none⟩) E.length q6, .slice (some ⟨go78, 0, none⟩) D.length t6, .int .i64 (wrap64 (o0 + 1)), .int .i64 D0, .int .i64 O0] 30 (0, 0))) := ⟨by (with_reducible repeat (first | refine zn ?_ _ | refine zd ?_ | refine za ?_ _)); refine blk_far ?_ (by have h_ := Kd.R_ne B.out a.out (by decide); intro e_; exact h_ (by rw [e_]; rfl)) _; (with_reducible repeat (first | refine zn ?_ _ | refine zd ?_ | refine za ?_ _)); refine blk_far ?_ (by have h_ := Kd.R_ne q.out a.out (by decide); intro e_; exact h_ (by rw [e_]; rfl)) _; (with_reducible repeat (first | refine zn ?_ _ | refine zd ?_ | refine za ?_ _)); exact a.out⟩
 have G0 : Aside0 (Below w.heap.size w ((G5.setCell ⟨go76, (u : Int).toNat, none⟩ (.int .i64 o1)).setCell ⟨go78, (u : Int).toNat, none⟩ (.int .i64 A1))) := ⟨by repeat (first | (with_reducible first | exact HB.out | apply zb | apply zw | apply ze | refine zs ?_ GB76.out | refine zs ?_ GB78.out | refine zs ?_ b2.out | refine zs ?_ d2.out | refine zs ?_ e2.out | refine zs ?_ p3.out) | exact HB.out)⟩
 (try clear a0)
 (try clear A)
 (try clear q)
 (try clear B)
 (try clear y)
 (try clear l)
 (try clear z)
 (try clear a)
 (try clear HB)
 generalize ((G5.setCell ⟨go76, (u : Int).toNat, none⟩ (.int .i64 o1)).setCell ⟨go78, (u : Int).toNat, none⟩ (.int .i64 A1)) = w92 at O T U X d0 e0 f0 E0 G0 ⊢
 revert O T U X d0 e0 f0 E0 G0
 intro a0 A q B y l z a HB
 have O := zK (Kd.R_drew a0.out)
 have T := zK (Kd.R_drew A.out)
 have U := zK (Kd.R_drew q.out)
 have X := zK (Kd.R_drew B.out)
 have d0 := zK (zd y.out)
 have e0 := zK (zd l.out)
 have f0 := zK (zd z.out)
 have E0 := zK (zd a.out)
 have G0 := zK (ze HB.out)
 revert O T U X d0 e0 f0 E0 G0
 clear a0 A q B y l z a HB
 intro a0 A q B y l z a HB
 refine start_ (n := 7) (S := fun w' => w'.cell? ⟨J, 0, none⟩ = some (u327000) ∧ w'.cell? ⟨J, 1, none⟩ = some (.slice (some ⟨go76, 0, none⟩) E.length q6) ∧ w'.cell? ⟨J, 2, none⟩ = some (.slice (some ⟨go78, 0, none⟩) D.length t6) ∧ w'.cell? ⟨J, 3, none⟩ = some (.int .i64 (wrap64 (o0 + 1))) ∧ w'.cell? ⟨J, 4, none⟩ = some (.int .i64 D0) ∧ w'.cell? ⟨J, 5, none⟩ = some (.int .i64 O0)) (ds := [6]) (bl 7 0) (by kernel_rfl) rfl (by kernel_rfl) ⟨zy a 0, zy a 1, zy a 2, zy a 3, zy a 4, zy a 5⟩ (fun hHeld => ?_)
 generalize w92.drew = w93 at a0 A q B y l z a HB HQ90 HQ91 hHeld ⊢
 refine pure_ (i := 0) (N := some 124) (v := ?_) (a' := ?_) (bl 7 1) rfl rfl (by kernel_rfl) (fun _ _ _ h => h) (Or.inl ⟨by rfl, ?_⟩) ?_ ?_
 rotate_left
 · intro w'
   go_simp
   with_reducible rfl
 rotate_left
 · simp only [Act.put, zq1, zq2, zq3, i64_w, i32_w]
   rfl
 refine pure_ (i := 2) (N := some 126) (v := ?_) (a' := ?_) (bl 7 5) rfl rfl (by kernel_rfl) (fun _ _ _ h => h) (Or.inl ⟨by rfl, ?_⟩) ?_ ?_
 rotate_left
 · intro w'
   go_simp
   with_reducible rfl
 rotate_left
 · simp only [Act.put, zq1, zq2, zq3, i64_w, i32_w]
   rfl
 refine pure_ (i := 3) (N := some 127) (v := ?_) (a' := ?_) (bl 7 13) rfl rfl (by kernel_rfl) (fun _ _ _ h => h) (Or.inl ⟨by rfl, ?_⟩) ?_ ?_
 rotate_left
 · intro w'
   go_simp
   with_reducible rfl
 rotate_left
 · simp only [Act.put, zq1, zq2, zq3, i64_w, i32_w]
   rfl
 refine take_ (i := 1) (N := some 125) (v := ?_) (a' := ?_) (bl 7 15) rfl rfl (by kernel_rfl) (fun _ _ _ h => h) (Or.inl ⟨by rfl, ?_⟩) hHeld ?_ ?_
 rotate_left
 · rintro w' ⟨s0, s1, s2, s3, s4, s5⟩
   go_simp
   with_reducible rfl
 rotate_left
 · simp only [Act.put, zq1, zq2, zq3, i64_w, i32_w]
   rfl
 refine one_ (i := 4) (N := some 128) (bl 7 31) rfl rfl (by kernel_rfl) (by decide) (fun K hK => ?_)
 refine goes_ Try.func52 (by kernel_rfl) rfl #[.int .i64 m3, .int .i64 (-68719476736), .int .i64 68719476736] (by rfl) rfl rfl zL ?_
 with_reducible refine (impl_bring_int.calls m3 (-68719476736) 68719476736 X1 _ A79.out).mono ?_
 rintro e w94 ⟨rfl, hb⟩
 refine ⟨_, rfl, ?_⟩
 have O := zK (Kd.R_below (zkR a0) hb)
 have T := zK (Kd.R_below (zkR A) hb)
 have U := zK (Kd.R_below (zkR q) hb)
 have X := zK (Kd.R_below (zkR B) hb)
 have d0 := z7 y hb
 have e0 := z7 l hb
 have f0 := z7 z hb
 have E0 := z7 a hb
 have G0 := z8 hb
 revert O T U X d0 e0 f0 E0 G0
 clear a0 A q B y l z a HB
 intro a0 A q B y l z a HB
 (try clear hb)
 (try clear hb2)
 (try clear hk)
 (try clear hi)
 have p81 : 0 ≤ (u : Int) := z3
 have q81 : (u : Int) < ((I.length : Int) : Int) := z3
 obtain ⟨go81, f3a, c8e, c8f, gl81, cl81, HG81⟩ := Kd.R_form A.out (by omega)
 (first | cases c8e | (injection c8e with ea_ en_ ec_; (first | subst ea_ | (injection ea_ with ea_; subst ea_)); subst ec_; clear en_))
 have GB81 := zK c8f
 have GG81 := zK HG81
 clear c8f gl81 HG81
 obtain ⟨g2z, hf81_0⟩ := Kd.R_celln 0 A.out (u : Int) p81 q81
 replace p81 := eq_true p81
 replace q81 := eq_true q81
 have HP95 := Kd.R_putn A.out (u : Int) X1
 rw [← Ny349.out] at HP95
 have HQ95 := zK HP95
 clear HP95
 refine hK.out _ _ ⟨zy a 0, zy a 1, zy a 2, zy a 3, zy a 4, zy a 5⟩ (fun hHeld => ?_)
 clear hK K
 refine zU 128 ?_
 refine pure_ (i := 5) (N := some 129) (v := ?_) (a' := ?_) (bl 7 63) rfl rfl (by kernel_rfl) (fun _ _ _ h => h) (Or.inl ⟨by rfl, ?_⟩) ?_ ?_
 rotate_left
 · intro w'
   go_simp
   with_reducible rfl
 rotate_left
 · simp only [Act.put, zq1, zq2, zq3, i64_w, i32_w]
   rfl
 refine last_ (i := 6) (N := none) (bl 7 127) rfl rfl (by kernel_rfl) (by decide) (fun K hK => ?_)
 refine skip_ (w1 := ?_) (by rfl) rfl ?_ ?_
 rotate_left
 · go_simp
   rfl
 refine hK.out _ _ ?_
 clear hK K
 refine done_ (by kernel_rfl) ?_
 try go_wp2
 go_roundg k1
 case measure => have := x6.out; omega
 case rel => exact ⟨(F0), (wrap64 (u + 1)), (m7), (C3), (i5), (.slice (some ⟨go81, 0, none⟩) I.length f3a), (.slice (some ⟨go76, 0, none⟩) E.length q6), (.slice (some ⟨go78, 0, none⟩) D.length t6), zR, H', ⟨by have := x6.out; omega⟩, ⟨Kd.R_mono (zlR (Kd.R_mono a0.out (fun k_ hk => (⟨hk, fun e_ => hk.1 (by rw [e_]; rfl)⟩ : _ ∧ k_ ≠ go81)))) (fun _ hk => ⟨hk.1.1, ⟨hk.1.2.1, hk.1.2.2⟩⟩)⟩, ⟨zkR HQ95⟩, ⟨Kd.R_mono (zlR (Kd.R_mono q.out (fun k_ hk => (⟨hk, fun e_ => hk.2.1 (by rw [e_]; rfl)⟩ : _ ∧ k_ ≠ go81)))) (fun _ hk => ⟨hk.1.1, ⟨hk.1.2.1, hk.1.2.2⟩⟩)⟩, ⟨Kd.R_mono (zlR (Kd.R_mono B.out (fun k_ hk => (⟨hk, fun e_ => hk.2.1 (by rw [e_]; rfl)⟩ : _ ∧ k_ ≠ go81)))) (fun _ hk => ⟨hk.1.1, ⟨hk.1.2.1, hk.1.2.2⟩⟩)⟩, ⟨by (with_reducible repeat (first | refine zn ?_ _ | refine zd ?_ | refine za ?_ _)); refine blk_far ?_ (by have h_ := Kd.R_ne A.out y.out (by decide); intro e_; exact h_ (by rw [e_]; rfl)) _; (with_reducible repeat (first | refine zn ?_ _ | refine zd ?_ | refine za ?_ _)); exact y.out⟩, ⟨by (with_reducible repeat (first | refine zn ?_ _ | refine zd ?_ | refine za ?_ _)); refine blk_far ?_ (by have h_ := Kd.R_ne A.out l.out (by decide); intro e_; exact h_ (by rw [e_]; rfl)) _; (with_reducible repeat (first | refine zn ?_ _ | refine zd ?_ | refine za ?_ _)); exact l.out⟩, ⟨by (with_reducible repeat (first | refine zn ?_ _ | refine zd ?_ | refine za ?_ _)); refine blk_far ?_ (by have h_ := Kd.R_ne A.out z.out (by decide); intro e_; exact h_ (by rw [e_]; rfl)) _; (with_reducible repeat (first | refine zn ?_ _ | refine zd ?_ | refine za ?_ _)); exact z.out⟩, ⟨by (with_reducible repeat (first | refine zn ?_ _ | refine zd ?_ | refine za ?_ _)); refine blk_far ?_ (by have h_ := Kd.R_ne A.out a.out (by decide); intro e_; exact h_ (by rw [e_]; rfl)) _; (with_reducible repeat (first | refine zn ?_ _ | refine zd ?_ | refine za ?_ _)); exact a.out⟩, ⟨by repeat (first | (with_reducible first | exact HB.out | apply zb | apply zw | apply ze | refine zs ?_ GB81.out | refine zs ?_ b2.out | refine zs ?_ d2.out | refine zs ?_ e2.out | refine zs ?_ p3.out) | exact HB.out)⟩⟩
end Go.Proofs.Ytodfhokndnmdoaa.PFnFactor
