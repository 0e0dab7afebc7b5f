-- Printed out of the translation by this session's own turned copy of a printer; Lean checks it.
import Derived.Test.YtodfhokndnmdoaaPFnFactorx0
import Derived.Test.YtodfhokndnmdoaaPFnFactorx12
namespace Go.Proofs.Ytodfhokndnmdoaa.PFnFactor
open Go.RowKit Go.Proofs.YtodfhokndnmdoaaW.PrintWords Go.Proofs.YtodfhokndnmdoaaW.PrintLast Go.Proofs.YtodfhokndnmdoaaW.PrintMore
attribute [local go_sem] max2_int min2_int max_two min_two max_three min_three max_four min_four
set_option linter.unusedVariables false
set_option linter.unusedSimpArgs false
set_option maxHeartbeats 8000000
set_option maxRecDepth 100000
theorem ww13a {P : Prop} (h : P := by repeat (first | (with_reducible first | exact HI0.out | apply IsS94.alloc | apply IsS94.drewN | apply IsS94.drew | apply IsS94.set_1 | apply IsS94.set_2 | refine IsS94.far ?_ I.out _ | refine IsS94.far ?_ J.out _) | exact HI0.out)) : P := h
theorem ww13b {P : Prop} (h : P := by repeat (first | (with_reducible first | exact HK.out | apply KeepBut.set_ | apply keep_drewN | apply keep_drew | apply keep_alloc | refine keep_far ?_ f0.out _ | refine keep_far ?_ m0.out _) | exact HK.out)) : P := h
theorem ww13c {P : Prop} (h : P := by repeat (first | (with_reducible first | exact HB.out | apply zb | apply zw | apply ze | refine zs ?_ (IsS94.ge HI0.out) | refine zs ?_ i0.out | refine zs ?_ n0.out) | exact HB.out)) : P := h
theorem ww13d {P : Prop} (h : P := by repeat (first | (with_reducible first | exact HI0.out | apply IsS94.alloc | apply IsS94.drewN | apply IsS94.drew | apply IsS94.set_1 | apply IsS94.set_2 | refine IsS94.far ?_ I.out _) | exact HI0.out)) : P := h
theorem ww13e {P : Prop} (h : P := by repeat (first | (with_reducible first | exact HK.out | apply KeepBut.set_ | apply keep_drewN | apply keep_drew | apply keep_alloc | refine keep_far ?_ f0.out _) | exact HK.out)) : P := h
theorem ww13f {P : Prop} (h : P := by repeat (first | (with_reducible first | exact HB.out | apply zb | apply zw | apply ze | refine zs ?_ (IsS94.ge HI0.out) | refine zs ?_ i0.out) | exact HB.out)) : P := h
theorem ww13g {P : Prop} (h : P := by repeat (first | (with_reducible first | exact HI0.out | apply IsS94.alloc | apply IsS94.drewN | apply IsS94.drew | apply IsS94.set_1 | apply IsS94.set_2) | exact HI0.out)) : P := h
theorem ww13h {P : Prop} (h : P := by repeat (first | (with_reducible first | exact HK.out | apply KeepBut.set_ | apply keep_drewN | apply keep_drew | apply keep_alloc) | exact HK.out)) : P := h
mutual
def spec_l15DrawRule.j0 : Nat → List Int → Int → Int → Int → Int → Int → Int → Int → Int → Int → Int → Int → Int → Int → Option (Int × Int × Int × Int × Int × Int × Int × Int × Int × Int × Int × Int × Int)
 | 0, _, _, _, _, _, _, _, _, _, _, _, _, _, _ => none
 | k + 1, u, X, a0, y, z, A, D, E, I, J, L, M, U, O => (spec_l1Once.f u X a0 2).bind fun q => (if q.1 = true then ((spec_l1Below.f u q.2.1 q.2.2 200000).bind fun T => (spec_l15DrawRule.j1 k u T.2.1 T.2.2 y z A D E I J L M (wrap64 (1 + T.1)) O)) else (spec_l15DrawRule.j1 k u q.2.1 q.2.2 y z A D E I J L M U O))
def spec_l15DrawRule.j1 : Nat → List Int → Int → Int → Int → Int → Int → Int → Int → Int → Int → Int → Int → Int → Int → Option (Int × Int × Int × Int × Int × Int × Int × Int × Int × Int × Int × Int × Int)
 | 0, _, _, _, _, _, _, _, _, _, _, _, _, _, _ => none
 | k + 1, u, X, a0, y, z, A, D, E, I, J, L, M, O, U => (spec_l1Once.f u X a0 2).bind fun q => (if q.1 = true then ((spec_l1Below.f u q.2.1 q.2.2 4).bind fun T => (spec_l15DrawRule.j2 k u T.2.1 T.2.2 y z A D E I J L M O (wrap64 (1 + T.1)))) else (spec_l15DrawRule.j2 k u q.2.1 q.2.2 y z A D E I J L M O U))
def spec_l15DrawRule.j2 : Nat → List Int → Int → Int → Int → Int → Int → Int → Int → Int → Int → Int → Int → Int → Int → Option (Int × Int × Int × Int × Int × Int × Int × Int × Int × Int × Int × Int × Int)
 | 0, _, _, _, _, _, _, _, _, _, _, _, _, _, _ => none
 | k + 1, U, a0, b0, I, u, y, z, A, J, D, L, E, M, O => (spec_l1Once.f U a0 b0 40).bind fun T => (if T.1 = true then ((spec_l1Below.f U T.2.1 T.2.2 5).bind fun q => (if q.1 = 0 then ((spec_l1PickInt.f U q.2.1 q.2.2 (([0, 4] : List Int))).bind fun X => (some (X.1, u, y, z, A, J, D, L, E, M, O, X.2.1, X.2.2))) else (if q.1 = 1 then (some (I, u, y, z, A, 65537, D, L, E, M, O, q.2.1, q.2.2)) else (if q.1 = 2 then (some (I, u, y, z, A, J, D, 0, E, M, O, q.2.1, q.2.2)) else (if q.1 = 3 then (some (I, u, y, z, A, J, D, L, E, 1073741825, O, q.2.1, q.2.2)) else (if q.1 = 4 then (some (I, u, y, z, A, J, D, L, E, M, (-1), q.2.1, q.2.2)) else (some (I, u, y, z, A, J, D, L, E, M, O, q.2.1, q.2.2)))))))) else (some (I, u, y, z, A, J, D, L, E, M, O, T.2.1, T.2.2)))
end
def spec_l15DrawRule.f (k : Nat) (u : List Int) (J : Int) (L : Int) : Option (Int × Int × Int × Int × Int × Int × Int × Int × Int × Int × Int × Int × Int) := (spec_l1Below.f u J L 3).bind fun z => ((spec_l15DrawSched.f k u z.2.1 z.2.2).bind fun q => ((spec_l1Below.f u q.2.2.2.2.1 q.2.2.2.2.2 65537).bind fun A => ((spec_l1Below.f u A.2.1 A.2.2 65537).bind fun D => ((spec_l1Below.f u D.2.1 D.2.2 1000).bind fun E => ((spec_l1Once.f u E.2.1 E.2.2 2).bind fun y => (if y.1 = true then ((spec_l1Below.f u y.2.1 y.2.2 3000).bind fun I => (spec_l15DrawRule.j0 k u I.2.1 I.2.2 (wrap64 (1 + z.1)) q.1 q.2.1 q.2.2.1 q.2.2.2.1 A.1 D.1 (wrap64 (1 + E.1)) I.1 0 0)) else (spec_l15DrawRule.j0 k u y.2.1 y.2.2 (wrap64 (1 + z.1)) q.1 q.2.1 q.2.2.1 q.2.2.2.1 A.1 D.1 (wrap64 (1 + E.1)) 0 0 0)))))))
theorem spec_l15DrawRule.calls (k) (g) (E : List Int) (x1) (y1) (r1) (r2) (r3) (r4) (r5) (r6) (r7) (r8) (r9) (r10) (r11) (r12) (r13) (w0 w : World) (hI : IsS94 w0 w g E x1 y1) (hB : Below w0.heap.size w0 w) (h : spec_l15DrawRule.f k E x1 y1 = some (r1, r2, r3, r4, r5, r6, r7, r8, r9, r10, r11, r12, r13)) :
 Calls Try.prog 57 #[.pointer (some ⟨g, 0, none⟩)] w fun e w' => e = .returned (.agg #[.int .i64 r1, .int .i64 r2, .int .i64 r3, .int .i64 r4, .int .i64 r5, .int .i64 r6, .int .i64 r7, .int .i64 r8, .int .i64 r9, .int .i64 r10, .int .i64 r11]) ∧ IsS94 w0 w' g E r12 r13 ∧ Below w0.heap.size w0 w' ∧ KeepBut w w' g none := by
 have b2n := Try.underlying35
 have HI0 := zK hI
 have HK := zK (KeepBut.refl w g none)
 have HL := zK hB.size
 clear hI
 have HW0 := zK hB.size
 have HB := zK hB
 clear hB
 have H : ((spec_l1Below.f E x1 y1 3).bind fun G2 => ((spec_l15DrawSched.f k E G2.2.1 G2.2.2).bind fun A0 => ((spec_l1Below.f E A0.2.2.2.2.1 A0.2.2.2.2.2 65537).bind fun I0 => ((spec_l1Below.f E I0.2.1 I0.2.2 65537).bind fun D0 => ((spec_l1Below.f E D0.2.1 D0.2.2 1000).bind fun y0 => ((spec_l1Once.f E y0.2.1 y0.2.2 2).bind fun l0 => (if l0.1 = true then ((spec_l1Below.f E l0.2.1 l0.2.2 3000).bind fun t0 => (spec_l15DrawRule.j0 k E t0.2.1 t0.2.2 (wrap64 (1 + G2.1)) A0.1 A0.2.1 A0.2.2.1 A0.2.2.2.1 I0.1 D0.1 (wrap64 (1 + y0.1)) t0.1 0 0)) else (spec_l15DrawRule.j0 k E l0.2.1 l0.2.2 (wrap64 (1 + G2.1)) A0.1 A0.2.1 A0.2.2.1 A0.2.2.2.1 I0.1 D0.1 (wrap64 (1 + y0.1)) 0 0 0)))))))) = some (r1, r2, r3, r4, r5, r6, r7, r8, r9, r10, r11, r12, r13) := h
 clear h
 replace H := z6 H
 obtain ⟨⟨X, V3, X3⟩, f6, H⟩ := H
 replace H : ((spec_l15DrawSched.f k E V3 X3).bind fun A0 => ((spec_l1Below.f E A0.2.2.2.2.1 A0.2.2.2.2.2 65537).bind fun I0 => ((spec_l1Below.f E I0.2.1 I0.2.2 65537).bind fun D0 => ((spec_l1Below.f E D0.2.1 D0.2.2 1000).bind fun y0 => ((spec_l1Once.f E y0.2.1 y0.2.2 2).bind fun l0 => (if l0.1 = true then ((spec_l1Below.f E l0.2.1 l0.2.2 3000).bind fun t0 => (spec_l15DrawRule.j0 k E t0.2.1 t0.2.2 (wrap64 (1 + X)) A0.1 A0.2.1 A0.2.2.1 A0.2.2.2.1 I0.1 D0.1 (wrap64 (1 + y0.1)) t0.1 0 0)) else (spec_l15DrawRule.j0 k E l0.2.1 l0.2.2 (wrap64 (1 + X)) A0.1 A0.2.1 A0.2.2.1 A0.2.2.2.1 I0.1 D0.1 (wrap64 (1 + y0.1)) 0 0 0))))))) = some (r1, r2, r3, r4, r5, r6, r7, r8, r9, r10, r11, r12, r13) := H
 have A2 := zK f6
 clear f6
 replace H := z6 H
 obtain ⟨⟨L, O, T, U, a4, b4⟩, I4, H⟩ := H
 replace H : ((spec_l1Below.f E a4 b4 65537).bind fun I0 => ((spec_l1Below.f E I0.2.1 I0.2.2 65537).bind fun D0 => ((spec_l1Below.f E D0.2.1 D0.2.2 1000).bind fun y0 => ((spec_l1Once.f E y0.2.1 y0.2.2 2).bind fun l0 => (if l0.1 = true then ((spec_l1Below.f E l0.2.1 l0.2.2 3000).bind fun t0 => (spec_l15DrawRule.j0 k E t0.2.1 t0.2.2 (wrap64 (1 + X)) L O T U I0.1 D0.1 (wrap64 (1 + y0.1)) t0.1 0 0)) else (spec_l15DrawRule.j0 k E l0.2.1 l0.2.2 (wrap64 (1 + X)) L O T U I0.1 D0.1 (wrap64 (1 + y0.1)) 0 0 0)))))) = some (r1, r2, r3, r4, r5, r6, r7, r8, r9, r10, r11, r12, r13) := H
 have A3 := zK I4
 clear I4
 replace H := z6 H
 obtain ⟨⟨b0, d4, e4⟩, g6, H⟩ := H
 replace H : ((spec_l1Below.f E d4 e4 65537).bind fun D0 => ((spec_l1Below.f E D0.2.1 D0.2.2 1000).bind fun y0 => ((spec_l1Once.f E y0.2.1 y0.2.2 2).bind fun l0 => (if l0.1 = true then ((spec_l1Below.f E l0.2.1 l0.2.2 3000).bind fun t0 => (spec_l15DrawRule.j0 k E t0.2.1 t0.2.2 (wrap64 (1 + X)) L O T U b0 D0.1 (wrap64 (1 + y0.1)) t0.1 0 0)) else (spec_l15DrawRule.j0 k E l0.2.1 l0.2.2 (wrap64 (1 + X)) L O T U b0 D0.1 (wrap64 (1 + y0.1)) 0 0 0))))) = some (r1, r2, r3, r4, r5, r6, r7, r8, r9, r10, r11, r12, r13) := H
 have A4 := zK g6
 clear g6
 replace H := z6 H
 obtain ⟨⟨a0, f4, g4⟩, i6, H⟩ := H
 replace H : ((spec_l1Below.f E f4 g4 1000).bind fun y0 => ((spec_l1Once.f E y0.2.1 y0.2.2 2).bind fun l0 => (if l0.1 = true then ((spec_l1Below.f E l0.2.1 l0.2.2 3000).bind fun t0 => (spec_l15DrawRule.j0 k E t0.2.1 t0.2.2 (wrap64 (1 + X)) L O T U b0 a0 (wrap64 (1 + y0.1)) t0.1 0 0)) else (spec_l15DrawRule.j0 k E l0.2.1 l0.2.2 (wrap64 (1 + X)) L O T U b0 a0 (wrap64 (1 + y0.1)) 0 0 0)))) = some (r1, r2, r3, r4, r5, r6, r7, r8, r9, r10, r11, r12, r13) := H
 have A5 := zK i6
 clear i6
 replace H := z6 H
 obtain ⟨⟨c0, I2, J2⟩, j6, H⟩ := H
 replace H : ((spec_l1Once.f E I2 J2 2).bind fun l0 => (if l0.1 = true then ((spec_l1Below.f E l0.2.1 l0.2.2 3000).bind fun t0 => (spec_l15DrawRule.j0 k E t0.2.1 t0.2.2 (wrap64 (1 + X)) L O T U b0 a0 (wrap64 (1 + c0)) t0.1 0 0)) else (spec_l15DrawRule.j0 k E l0.2.1 l0.2.2 (wrap64 (1 + X)) L O T U b0 a0 (wrap64 (1 + c0)) 0 0 0))) = some (r1, r2, r3, r4, r5, r6, r7, r8, r9, r10, r11, r12, r13) := H
 have A6 := zK j6
 clear j6
 replace H := z6 H
 obtain ⟨⟨i4, L2, M2⟩, l6, H⟩ := H
 replace H : (if i4 = true then ((spec_l1Below.f E L2 M2 3000).bind fun t0 => (spec_l15DrawRule.j0 k E t0.2.1 t0.2.2 (wrap64 (1 + X)) L O T U b0 a0 (wrap64 (1 + c0)) t0.1 0 0)) else (spec_l15DrawRule.j0 k E L2 M2 (wrap64 (1 + X)) L O T U b0 a0 (wrap64 (1 + c0)) 0 0 0)) = some (r1, r2, r3, r4, r5, r6, r7, r8, r9, r10, r11, r12, r13) := H
 have A7 := zK l6
 clear l6
 have p5 := zK H
 clear H
 go_enter Try.func57, Try.ntmps57
 go_upto_if 18 with (first | ((with_reducible refine gd 2 rfl ?_); refine zJ 2 #[.int .i64 0, .int .i64 0, .int .i64 0, .int .i64 0, .int .i64 0, .int .i64 0, .int .i64 0, .int .i64 0, .int .i64 0, .int .i64 0, .int .i64 0] 35 ?_; intro g0 hg w9 hbox hb; have o0 := zK (IsS94.below (ww13g) hb); have p0 := zK (KeepBut.trans (ww13h) (KeepBut.of_below hb g none) (.inl rfl)); have q0 := zK (zp (by repeat (first | (with_reducible first | exact HB.out | apply zb | apply zw | apply ze | refine zs ?_ (IsS94.ge HI0.out)) | exact HB.out)) hb); have s0 := zK (hbox); have x0 := zK ((by rw [hg]; exact (keep_size (w := w) (g := g) (row := none) (ww13h)) : w.heap.size ≤ g0)); have N2 := zK ((Nat.le_trans HW0.out (by rw [hg]; exact (keep_size (w := w) (g := g) (row := none) (ww13h)) : w.heap.size ≤ g0) : w0.heap.size ≤ g0)); have q5 := zK ((by rw [hg]; exact Nat.ne_of_lt (IsS94.lt (show IsS94 w0 _ g E x1 y1 from ww13g)) : g ≠ g0)); have s5 := zK ((by rw [hg]; exact Nat.ne_of_gt (IsS94.lt (show IsS94 w0 _ g E x1 y1 from ww13g)) : g0 ≠ g)); revert o0 p0 q0 s0 x0 N2 q5 s5; clear HI0 HK HB; intro HI0 HK HB z f0 i0 I d0; clear hb hbox hg) | ((with_reducible refine gc 60 rfl ?_); refine zF 5 Try.func60 #[.pointer (some ⟨g, 0, none⟩), .int .i64 3] rfl zL ?_; (with_reducible refine (spec_l1Below.calls g E x1 y1 3 X V3 X3 w0 _ ?side1 ?side2 A2.out).mono ?_); (case side1 => exact ww13d); (case side2 => exact ww13f); rintro e w10 ⟨rfl, hi, hb, hk⟩; refine ⟨_, rfl, ?_⟩; have o0 := zK (KeepBut.blk hk (g' := g0) (o := .cells #[.int .i64 0, .int .i64 0, .int .i64 0, .int .i64 0, .int .i64 0, .int .i64 0, .int .i64 0, .int .i64 0, .int .i64 0, .int .i64 0, .int .i64 0] 35 (0, 0)) (zM z) d0.out (by simp)); have p0 := zK (KeepBut.trans (ww13e) hk (.inl rfl)); have q0 := zK (hb); have s0 := zK (hi); revert o0 p0 q0 s0; clear z HK HB HI0; intro z HK HB HI0) | ((with_reducible refine gc 75 rfl ?_); refine zF 8 Try.func75 #[.pointer (some ⟨g, 0, none⟩)] rfl zL ?_; (with_reducible refine (spec_l15DrawSched.calls k g E V3 X3 L O T U a4 b4 w0 _ ?side1 ?side2 A3.out).mono ?_); (case side1 => exact ww13d); (case side2 => exact ww13f); rintro e w11 ⟨rfl, hi, hb, hk⟩; refine ⟨_, rfl, ?_⟩; have o0 := zK (KeepBut.blk hk (g' := g0) (o := .cells #[.int .i64 0, .int .i64 0, .int .i64 0, .int .i64 0, .int .i64 0, .int .i64 0, .int .i64 0, .int .i64 0, .int .i64 0, .int .i64 0, .int .i64 0] 35 (0, 0)) (zM z) d0.out (by simp)); have p0 := zK (KeepBut.trans (ww13e) hk (.inl rfl)); have q0 := zK (hb); have s0 := zK (hi); revert o0 p0 q0 s0; clear z HK HB HI0; intro z HK HB HI0) | ((with_reducible refine gc 60 rfl ?_); refine zF 10 Try.func60 #[.pointer (some ⟨g, 0, none⟩), .int .i64 65537] rfl zL ?_; (with_reducible refine (spec_l1Below.calls g E a4 b4 65537 b0 d4 e4 w0 _ ?side1 ?side2 A4.out).mono ?_); (case side1 => exact ww13d); (case side2 => exact ww13f); rintro e w12 ⟨rfl, hi, hb, hk⟩; refine ⟨_, rfl, ?_⟩; have o0 := zK (KeepBut.blk hk (g' := g0) (o := .cells #[.int .i64 0, .int .i64 0, .int .i64 0, .int .i64 0, .int .i64 0, .int .i64 0, .int .i64 0, .int .i64 0, .int .i64 0, .int .i64 0, .int .i64 0] 35 (0, 0)) (zM z) d0.out (by simp)); have p0 := zK (KeepBut.trans (ww13e) hk (.inl rfl)); have q0 := zK (hb); have s0 := zK (hi); revert o0 p0 q0 s0; clear z HK HB HI0; intro z HK HB HI0) | ((with_reducible refine gc 60 rfl ?_); refine zF 12 Try.func60 #[.pointer (some ⟨g, 0, none⟩), .int .i64 65537] rfl zL ?_; (with_reducible refine (spec_l1Below.calls g E d4 e4 65537 a0 f4 g4 w0 _ ?side1 ?side2 A5.out).mono ?_); (case side1 => exact ww13d); (case side2 => exact ww13f); rintro e w13 ⟨rfl, hi, hb, hk⟩; refine ⟨_, rfl, ?_⟩; have o0 := zK (KeepBut.blk hk (g' := g0) (o := .cells #[.int .i64 0, .int .i64 0, .int .i64 0, .int .i64 0, .int .i64 0, .int .i64 0, .int .i64 0, .int .i64 0, .int .i64 0, .int .i64 0, .int .i64 0] 35 (0, 0)) (zM z) d0.out (by simp)); have p0 := zK (KeepBut.trans (ww13e) hk (.inl rfl)); have q0 := zK (hb); have s0 := zK (hi); revert o0 p0 q0 s0; clear z HK HB HI0; intro z HK HB HI0) | ((with_reducible refine gc 60 rfl ?_); refine zF 14 Try.func60 #[.pointer (some ⟨g, 0, none⟩), .int .i64 1000] rfl zL ?_; (with_reducible refine (spec_l1Below.calls g E f4 g4 1000 c0 I2 J2 w0 _ ?side1 ?side2 A6.out).mono ?_); (case side1 => exact ww13d); (case side2 => exact ww13f); rintro e w14 ⟨rfl, hi, hb, hk⟩; refine ⟨_, rfl, ?_⟩; have o0 := zK (KeepBut.blk hk (g' := g0) (o := .cells #[.int .i64 0, .int .i64 0, .int .i64 0, .int .i64 0, .int .i64 0, .int .i64 0, .int .i64 0, .int .i64 0, .int .i64 0, .int .i64 0, .int .i64 0] 35 (0, 0)) (zM z) d0.out (by simp)); have p0 := zK (KeepBut.trans (ww13e) hk (.inl rfl)); have q0 := zK (hb); have s0 := zK (hi); revert o0 p0 q0 s0; clear z HK HB HI0; intro z HK HB HI0) | ((with_reducible refine gd 3 rfl ?_); refine zJ 3 #[.int .i64 0, .int .i64 0, .int .i64 0, .int .i64 0, .int .i64 0, .int .i64 0, .int .i64 0, .int .i64 0, .int .i64 0, .int .i64 0, .int .i64 0] 35 ?_; intro u hg w15 hbox hb; have o0 := zK (IsS94.below (ww13d) hb); have p0 := z7 z hb; have q0 := zK (KeepBut.trans (ww13e) (KeepBut.of_below hb g none) (.inl rfl)); have s0 := zK (zp (ww13f) hb); have x0 := zK (hbox); have N2 := zK ((by rw [hg]; exact (keep_size (w := w) (g := g) (row := none) (ww13e)) : w.heap.size ≤ u)); have q5 := zK ((Nat.le_trans HW0.out (by rw [hg]; exact (keep_size (w := w) (g := g) (row := none) (ww13e)) : w.heap.size ≤ u) : w0.heap.size ≤ u)); have s5 := zHH hg z; have n8_ := zGG hg z; have n9_ := zK ((by rw [hg]; exact Nat.ne_of_lt (IsS94.lt (show IsS94 w0 _ g E I2 J2 from ww13d)) : g ≠ u)); have B6 := zK ((by rw [hg]; exact Nat.ne_of_gt (IsS94.lt (show IsS94 w0 _ g E I2 J2 from ww13d)) : u ≠ g)); revert o0 p0 q0 s0 x0 N2 q5 s5 n8_ n9_ B6; clear HI0 z HK HB; intro HI0 z HK HB q m0 n0 B0 C0 J e0; clear hb hbox hg; have a9y := C0.out; have a9z := B0.out; have b0a := e0.out; have b0b := J.out; obtain ⟨A1, B1, C1, D1, E1, F1, G1, I1, J1, L1, o1, M1, N1, O1, R1, S1, T1, U1, V1, X1, a2, p1⟩ := zc11 q) | ((with_reducible refine gc 76 rfl ?_); refine zF 18 Try.func76 #[.pointer (some ⟨g, 0, none⟩), .int .i64 2] rfl zL ?_; (with_reducible refine (spec_l1Once.calls g E I2 J2 2 i4 L2 M2 w0 _ ?side1 ?side2 A7.out).mono ?_); (case side1 => exact ww13a); (case side2 => exact ww13c); rintro e w19 ⟨rfl, hi, hb, hk⟩; refine ⟨_, rfl, ?_⟩; have o0 := zK (KeepBut.blk hk (g' := g0) (o := .cells #[.int .i64 0, .int .i64 0, .int .i64 0, .int .i64 0, .int .i64 0, .int .i64 0, .int .i64 0, .int .i64 0, .int .i64 0, .int .i64 0, .int .i64 0] 35 (0, 0)) (zV z) d0.out (by simp)); have p0 := zK (KeepBut.blk hk (g' := u) (o := .cells #[.int .i64 (wrap64 (1 + X)), .int .i64 L, .int .i64 O, .int .i64 T, .int .i64 U, .int .i64 b0, .int .i64 a0, .int .i64 (wrap64 (1 + c0)), .int .i64 0, .int .i64 0, .int .i64 0] 35 (0, 0)) (zW q) e0.out (by simp)); have q0 := zK (KeepBut.trans (ww13b) hk (.inl rfl)); have s0 := zK (hb); have x0 := zK (hi); revert o0 p0 q0 s0 x0; clear z q HK HB HI0; intro z q HK HB HI0))
 (try simp only [Act.put, zq1, zq2, zq3])
 go_cut [] (fun wc => ∃ (kq : Nat) (m1 : Int) (n1 : Int) (y : Int), Aside0 (spec_l15DrawRule.j0 kq E m1 n1 (wrap64 (1 + X)) L O T U b0 a0 (wrap64 (1 + c0)) y 0 0 = some (r1, r2, r3, r4, r5, r6, r7, r8, r9, r10, r11, r12, r13)) ∧ Aside0 (kq ≤ k) ∧ Aside0 (wc.heap[g0]? = some (.cells #[.int .i64 0, .int .i64 0, .int .i64 0, .int .i64 0, .int .i64 0, .int .i64 0, .int .i64 0, .int .i64 0, .int .i64 0, .int .i64 0, .int .i64 0] 35 (0, 0))) ∧ Aside0 (wc.heap[u]? = some (.cells #[.int .i64 (wrap64 (1 + X)), .int .i64 L, .int .i64 O, .int .i64 T, .int .i64 U, .int .i64 b0, .int .i64 a0, .int .i64 (wrap64 (1 + c0)), .int .i64 y, .int .i64 0, .int .i64 0] 35 (0, 0))) ∧ Aside0 (IsS94 w0 wc g E m1 n1) ∧ Aside0 (KeepBut w wc g none) ∧ Aside0 (Below w0.heap.size w0 wc))
 case first =>
  have H := p5.out
  clear p5
  by_cases O2 : i4 = true
  rotate_left
  · replace O2 := Bool.eq_false_iff.mpr O2
    subst O2
    rw [if_neg (show ¬ (false = true) by decide)] at H
    have H' := zK H
    clear H
    go_wp2
    go_meet
    case rel => exact ⟨_, (L2), (M2), (0), H', ⟨by first | omega | exact Nat.le_refl _⟩, ⟨zM z⟩, ⟨zM q⟩, ⟨ww13a⟩, ⟨ww13b⟩, ⟨ww13c⟩⟩
  subst O2
  rw [if_pos rfl] at H
  replace H := z6 H
  obtain ⟨⟨j4, l4, m4⟩, t5, H⟩ := H
  replace H : (spec_l15DrawRule.j0 k E l4 m4 (wrap64 (1 + X)) L O T U b0 a0 (wrap64 (1 + c0)) j4 0 0) = some (r1, r2, r3, r4, r5, r6, r7, r8, r9, r10, r11, r12, r13) := H
  have A21 := zK t5
  clear t5
  have H' := zK H
  clear H
  go_wp2_with (first | ((with_reducible refine gc 60 rfl ?_); refine zF 20 Try.func60 #[.pointer (some ⟨g, 0, none⟩), .int .i64 3000] rfl zL ?_; (with_reducible refine (spec_l1Below.calls g E L2 M2 3000 j4 l4 m4 w0 _ ?side1 ?side2 A21.out).mono ?_); (case side1 => exact ww13a); (case side2 => exact ww13c); rintro e V0 ⟨rfl, hi, hb, hk⟩; refine ⟨_, rfl, ?_⟩; have o0 := zK (KeepBut.blk hk (g' := g0) (o := .cells #[.int .i64 0, .int .i64 0, .int .i64 0, .int .i64 0, .int .i64 0, .int .i64 0, .int .i64 0, .int .i64 0, .int .i64 0, .int .i64 0, .int .i64 0] 35 (0, 0)) (zM z) d0.out (by simp)); have p0 := zK (KeepBut.blk hk (g' := u) (o := .cells #[.int .i64 (wrap64 (1 + X)), .int .i64 L, .int .i64 O, .int .i64 T, .int .i64 U, .int .i64 b0, .int .i64 a0, .int .i64 (wrap64 (1 + c0)), .int .i64 0, .int .i64 0, .int .i64 0] 35 (0, 0)) (zM q) e0.out (by simp)); have q0 := zK (KeepBut.trans (ww13b) hk (.inl rfl)); have s0 := zK (hb); have x0 := zK (hi); revert o0 p0 q0 s0 x0; clear z q HK HB HI0; intro z q HK HB HI0; have b0c := C0.out; have b0d := B0.out; have b0e := e0.out; have b0f := J.out; have b2 : V0.cell? ⟨u, 0, none⟩ = some (.int .i64 (wrap64 (1 + X))) := zy q 0; have d2 : V0.cell? ⟨u, 1, none⟩ = some (.int .i64 L) := zy q 1; have e2 : V0.cell? ⟨u, 2, none⟩ = some (.int .i64 O) := zy q 2; have f2 : V0.cell? ⟨u, 3, none⟩ = some (.int .i64 T) := zy q 3; have g2 : V0.cell? ⟨u, 4, none⟩ = some (.int .i64 U) := zy q 4; have i2 : V0.cell? ⟨u, 5, none⟩ = some (.int .i64 b0) := zy q 5; have l2 : V0.cell? ⟨u, 6, none⟩ = some (.int .i64 a0) := zy q 6; have m2 : V0.cell? ⟨u, 7, none⟩ = some (.int .i64 (wrap64 (1 + c0))) := zy q 7; have n2 : V0.cell? ⟨u, 8, none⟩ = some (.int .i64 0) := zy q 8; have o2 : V0.cell? ⟨u, 9, none⟩ = some (.int .i64 0) := zy q 9; have q1 : V0.cell? ⟨u, 10, none⟩ = some (.int .i64 0) := zy q 10; have q2 := zf q.out 0; have s2 := zf q.out 1; have t2 := zf q.out 2; have x2 := zf q.out 3; have y2 := zf q.out 4; have B2 := zf q.out 5; have C2 := zf q.out 6; have D2 := zf q.out 7; have E2 := zf q.out 8; have F2 := zf q.out 9; have s1 := zf q.out 10))
  go_meet
  case rel => exact ⟨_, (l4), (m4), (j4), H', ⟨by first | omega | exact Nat.le_refl _⟩, ⟨zV z⟩, ⟨zW q⟩, ⟨ww13a⟩, ⟨ww13b⟩, ⟨ww13c⟩⟩
 case rest =>
  clear p5
  try clear c1
  try clear c2
  try clear p2
  try clear c5
  try clear c6
  try clear p6
  try clear c7
  try clear m6
  try clear n6
  try clear O2
  try clear o6
  try clear q6
  try clear A1 B1 o1 C1 D1 E1 F1 G1 I1 J1 L1 M1 N1 p1 O1 R1 S1 T1 U1 V1 X1 a2
  try clear b2 d2 q1 e2 f2 g2 i2 l2 m2 n2 o2 q2 s2 s1 t2 x2 y2 B2 C2 D2 E2 F2
  obtain ⟨kq, m1, n1, y, HA, J4, z, q, HI0, HK, HB⟩ := hcut
  cases kq with
  | zero => exact absurd HA.out (by simp [spec_l15DrawRule.j0])
  | succ L4 =>
   have H := HA.out
   clear HA
   simp only [spec_l15DrawRule.j0] at H
   replace H := z6 H
   obtain ⟨⟨n4, R2, T2⟩, x5, H⟩ := H
   replace H : (if n4 = true then ((spec_l1Below.f E R2 T2 200000).bind fun R3 => (spec_l15DrawRule.j1 L4 E R3.2.1 R3.2.2 (wrap64 (1 + X)) L O T U b0 a0 (wrap64 (1 + c0)) y (wrap64 (1 + R3.1)) 0)) else (spec_l15DrawRule.j1 L4 E R2 T2 (wrap64 (1 + X)) L O T U b0 a0 (wrap64 (1 + c0)) y 0 0)) = some (r1, r2, r3, r4, r5, r6, r7, r8, r9, r10, r11, r12, r13) := H
   have A26 := zK x5
   clear x5
   have o4 := zK H
   clear H
   go_upto_if 23 with (first | ((with_reducible refine gc 76 rfl ?_); refine zF 23 Try.func76 #[.pointer (some ⟨g, 0, none⟩), .int .i64 2] rfl zL ?_; (with_reducible refine (spec_l1Once.calls g E m1 n1 2 n4 R2 T2 w0 _ ?side1 ?side2 A26.out).mono ?_); (case side1 => exact ww13a); (case side2 => exact ww13c); rintro e w28 ⟨rfl, hi, hb, hk⟩; refine ⟨_, rfl, ?_⟩; have o0 := zK (KeepBut.blk hk (g' := g0) (o := .cells #[.int .i64 0, .int .i64 0, .int .i64 0, .int .i64 0, .int .i64 0, .int .i64 0, .int .i64 0, .int .i64 0, .int .i64 0, .int .i64 0, .int .i64 0] 35 (0, 0)) (zM z) d0.out (by simp)); have p0 := zK (KeepBut.blk hk (g' := u) (o := .cells #[.int .i64 (wrap64 (1 + X)), .int .i64 L, .int .i64 O, .int .i64 T, .int .i64 U, .int .i64 b0, .int .i64 a0, .int .i64 (wrap64 (1 + c0)), .int .i64 y, .int .i64 0, .int .i64 0] 35 (0, 0)) (zM q) e0.out (by simp)); have q0 := zK (KeepBut.trans (ww13b) hk (.inl rfl)); have s0 := zK (hb); have x0 := zK (hi); revert o0 p0 q0 s0 x0; clear z q HK HB HI0; intro z q HK HB HI0))
   (try simp only [Act.put, zq1, zq2, zq3])
   go_cut [] (fun wc => ∃ (kq : Nat) (S0 : Int) (T0 : Int) (A : Int), Aside0 (spec_l15DrawRule.j1 kq E S0 T0 (wrap64 (1 + X)) L O T U b0 a0 (wrap64 (1 + c0)) y A 0 = some (r1, r2, r3, r4, r5, r6, r7, r8, r9, r10, r11, r12, r13)) ∧ Aside0 (kq ≤ L4) ∧ Aside0 (wc.heap[g0]? = some (.cells #[.int .i64 0, .int .i64 0, .int .i64 0, .int .i64 0, .int .i64 0, .int .i64 0, .int .i64 0, .int .i64 0, .int .i64 0, .int .i64 0, .int .i64 0] 35 (0, 0))) ∧ Aside0 (wc.heap[u]? = some (.cells #[.int .i64 (wrap64 (1 + X)), .int .i64 L, .int .i64 O, .int .i64 T, .int .i64 U, .int .i64 b0, .int .i64 a0, .int .i64 (wrap64 (1 + c0)), .int .i64 y, .int .i64 A, .int .i64 0] 35 (0, 0))) ∧ Aside0 (IsS94 w0 wc g E S0 T0) ∧ Aside0 (KeepBut w wc g none) ∧ Aside0 (Below w0.heap.size w0 wc))
   case first =>
    have H := o4.out
    clear o4
    by_cases l3 : n4 = true
    rotate_left
    · replace l3 := Bool.eq_false_iff.mpr l3
      subst l3
      rw [if_neg (show ¬ (false = true) by decide)] at H
      have H' := zK H
      clear H
      go_wp2
      go_meet
      case rel => exact ⟨_, (R2), (T2), (0), H', ⟨by have := J4.out; first | omega | exact Nat.le_refl _⟩, ⟨zM z⟩, ⟨zM q⟩, ⟨ww13a⟩, ⟨ww13b⟩, ⟨ww13c⟩⟩
    subst l3
    rw [if_pos rfl] at H
    replace H := z6 H
    obtain ⟨⟨p4, q4, s4⟩, y5, H⟩ := H
    replace H : (spec_l15DrawRule.j1 L4 E q4 s4 (wrap64 (1 + X)) L O T U b0 a0 (wrap64 (1 + c0)) y (wrap64 (1 + p4)) 0) = some (r1, r2, r3, r4, r5, r6, r7, r8, r9, r10, r11, r12, r13) := H
    have I4 := zK y5
    clear y5
    have H' := zK H
    clear H
    go_wp2_with (first | ((with_reducible refine gc 60 rfl ?_); refine zF 25 Try.func60 #[.pointer (some ⟨g, 0, none⟩), .int .i64 200000] rfl zL ?_; (with_reducible refine (spec_l1Below.calls g E R2 T2 200000 p4 q4 s4 w0 _ ?side1 ?side2 I4.out).mono ?_); (case side1 => exact ww13a); (case side2 => exact ww13c); rintro e X0 ⟨rfl, hi, hb, hk⟩; refine ⟨_, rfl, ?_⟩; have o0 := zK (KeepBut.blk hk (g' := g0) (o := .cells #[.int .i64 0, .int .i64 0, .int .i64 0, .int .i64 0, .int .i64 0, .int .i64 0, .int .i64 0, .int .i64 0, .int .i64 0, .int .i64 0, .int .i64 0] 35 (0, 0)) (zM z) d0.out (by simp)); have p0 := zK (KeepBut.blk hk (g' := u) (o := .cells #[.int .i64 (wrap64 (1 + X)), .int .i64 L, .int .i64 O, .int .i64 T, .int .i64 U, .int .i64 b0, .int .i64 a0, .int .i64 (wrap64 (1 + c0)), .int .i64 y, .int .i64 0, .int .i64 0] 35 (0, 0)) (zM q) e0.out (by simp)); have q0 := zK (KeepBut.trans (ww13b) hk (.inl rfl)); have s0 := zK (hb); have x0 := zK (hi); revert o0 p0 q0 s0 x0; clear z q HK HB HI0; intro z q HK HB HI0; have b0g := C0.out; have b0j := B0.out; have b0l := e0.out; have b0m := J.out; have m3 : X0.cell? ⟨u, 0, none⟩ = some (.int .i64 (wrap64 (1 + X))) := zy q 0; have n3 : X0.cell? ⟨u, 1, none⟩ = some (.int .i64 L) := zy q 1; have o3 : X0.cell? ⟨u, 2, none⟩ = some (.int .i64 O) := zy q 2; have p3 : X0.cell? ⟨u, 3, none⟩ = some (.int .i64 T) := zy q 3; have q3 : X0.cell? ⟨u, 4, none⟩ = some (.int .i64 U) := zy q 4; have s3 : X0.cell? ⟨u, 5, none⟩ = some (.int .i64 b0) := zy q 5; have t3 : X0.cell? ⟨u, 6, none⟩ = some (.int .i64 a0) := zy q 6; have x3 : X0.cell? ⟨u, 7, none⟩ = some (.int .i64 (wrap64 (1 + c0))) := zy q 7; have y3 : X0.cell? ⟨u, 8, none⟩ = some (.int .i64 y) := zy q 8; have B3 : X0.cell? ⟨u, 9, none⟩ = some (.int .i64 0) := zy q 9; have U2 : X0.cell? ⟨u, 10, none⟩ = some (.int .i64 0) := zy q 10; have C3 := zf q.out 0; have D3 := zf q.out 1; have E3 := zf q.out 2; have F3 := zf q.out 3; have G3 := zf q.out 4; have I3 := zf q.out 5; have J3 := zf q.out 6; have L3 := zf q.out 7; have M3 := zf q.out 8; have N3 := zf q.out 9; have V2 := zf q.out 10))
    go_meet
    case rel => exact ⟨_, (q4), (s4), (wrap64 (1 + p4)), H', ⟨by have := J4.out; first | omega | exact Nat.le_refl _⟩, ⟨zV z⟩, ⟨zW q⟩, ⟨ww13a⟩, ⟨ww13b⟩, ⟨ww13c⟩⟩
   case rest =>
    clear o4
    try clear c1
    try clear c2
    try clear p2
    try clear c3
    try clear c5
    try clear c6
    try clear p6
    try clear c7
    try clear m6
    try clear n6
    try clear O2
    try clear o6
    try clear q6
    try clear l3
    try clear c32
    try clear c33
    try clear A1 B1 o1 C1 D1 E1 F1 G1 I1 J1 L1 M1 N1 p1 O1 R1 S1 T1 U1 V1 X1 a2
    try clear b2 d2 q1 e2 f2 g2 i2 l2 m2 n2 o2 q2 s2 s1 t2 x2 y2 B2 C2 D2 E2 F2
    try clear m3 n3 U2 o3 p3 q3 s3 t3 x3 y3 B3 C3 D3 V2 E3 F3 G3 I3 J3 L3 M3 N3
    try clear p2
    try clear p6
    obtain ⟨kq, S0, T0, A, HA, B5, z, q, HI0, HK, HB⟩ := hcut
    cases kq with
    | zero => exact absurd HA.out (by simp [spec_l15DrawRule.j1])
    | succ S3 =>
     have H := HA.out
     clear HA
     simp only [spec_l15DrawRule.j1] at H
     replace H := z6 H
     obtain ⟨⟨t4, X2, a3⟩, C5, H⟩ := H
     replace H : (if t4 = true then ((spec_l1Below.f E X2 a3 4).bind fun T3 => (spec_l15DrawRule.j2 S3 E T3.2.1 T3.2.2 (wrap64 (1 + X)) L O T U b0 a0 (wrap64 (1 + c0)) y A (wrap64 (1 + T3.1)))) else (spec_l15DrawRule.j2 S3 E X2 a3 (wrap64 (1 + X)) L O T U b0 a0 (wrap64 (1 + c0)) y A 0)) = some (r1, r2, r3, r4, r5, r6, r7, r8, r9, r10, r11, r12, r13) := H
     have A35 := zK C5
     clear C5
     have x4 := zK H
     clear H
     go_upto_if 29 with (first | ((with_reducible refine gc 76 rfl ?_); refine zF 29 Try.func76 #[.pointer (some ⟨g, 0, none⟩), .int .i64 2] rfl zL ?_; (with_reducible refine (spec_l1Once.calls g E S0 T0 2 t4 X2 a3 w0 _ ?side1 ?side2 A35.out).mono ?_); (case side1 => exact ww13a); (case side2 => exact ww13c); rintro e w37 ⟨rfl, hi, hb, hk⟩; refine ⟨_, rfl, ?_⟩; have o0 := zK (KeepBut.blk hk (g' := g0) (o := .cells #[.int .i64 0, .int .i64 0, .int .i64 0, .int .i64 0, .int .i64 0, .int .i64 0, .int .i64 0, .int .i64 0, .int .i64 0, .int .i64 0, .int .i64 0] 35 (0, 0)) (zM z) d0.out (by simp)); have p0 := zK (KeepBut.blk hk (g' := u) (o := .cells #[.int .i64 (wrap64 (1 + X)), .int .i64 L, .int .i64 O, .int .i64 T, .int .i64 U, .int .i64 b0, .int .i64 a0, .int .i64 (wrap64 (1 + c0)), .int .i64 y, .int .i64 A, .int .i64 0] 35 (0, 0)) (zM q) e0.out (by simp)); have q0 := zK (KeepBut.trans (ww13b) hk (.inl rfl)); have s0 := zK (hb); have x0 := zK (hi); revert o0 p0 q0 s0 x0; clear z q HK HB HI0; intro z q HK HB HI0))
     (try simp only [Act.put, zq1, zq2, zq3])
     go_cut [] (fun wc => ∃ (kq : Nat) (F0 : Int) (G0 : Int) (D : Int), Aside0 (spec_l15DrawRule.j2 kq E F0 G0 (wrap64 (1 + X)) L O T U b0 a0 (wrap64 (1 + c0)) y A D = some (r1, r2, r3, r4, r5, r6, r7, r8, r9, r10, r11, r12, r13)) ∧ Aside0 (kq ≤ S3) ∧ Aside0 (wc.heap[g0]? = some (.cells #[.int .i64 0, .int .i64 0, .int .i64 0, .int .i64 0, .int .i64 0, .int .i64 0, .int .i64 0, .int .i64 0, .int .i64 0, .int .i64 0, .int .i64 0] 35 (0, 0))) ∧ Aside0 (wc.heap[u]? = some (.cells #[.int .i64 (wrap64 (1 + X)), .int .i64 L, .int .i64 O, .int .i64 T, .int .i64 U, .int .i64 b0, .int .i64 a0, .int .i64 (wrap64 (1 + c0)), .int .i64 y, .int .i64 A, .int .i64 D] 35 (0, 0))) ∧ Aside0 (IsS94 w0 wc g E F0 G0) ∧ Aside0 (KeepBut w wc g none) ∧ Aside0 (Below w0.heap.size w0 wc))
     case first =>
      have H := x4.out
      clear x4
      by_cases U3 : t4 = true
      rotate_left
      · replace U3 := Bool.eq_false_iff.mpr U3
        subst U3
        rw [if_neg (show ¬ (false = true) by decide)] at H
        have H' := zK H
        clear H
        go_wp2
        go_meet
        case rel => exact ⟨_, (X2), (a3), (0), H', ⟨by have := J4.out; have := B5.out; first | omega | exact Nat.le_refl _⟩, ⟨zM z⟩, ⟨zM q⟩, ⟨ww13a⟩, ⟨ww13b⟩, ⟨ww13c⟩⟩
      subst U3
      rw [if_pos rfl] at H
      replace H := z6 H
      obtain ⟨⟨y4, B4, C4⟩, D5, H⟩ := H
      replace H : (spec_l15DrawRule.j2 S3 E B4 C4 (wrap64 (1 + X)) L O T U b0 a0 (wrap64 (1 + c0)) y A (wrap64 (1 + y4))) = some (r1, r2, r3, r4, r5, r6, r7, r8, r9, r10, r11, r12, r13) := H
      have A39 := zK D5
      clear D5
      have H' := zK H
      clear H
      go_wp2_with (first | ((with_reducible refine gc 60 rfl ?_); refine zF 31 Try.func60 #[.pointer (some ⟨g, 0, none⟩), .int .i64 4] rfl zL ?_; (with_reducible refine (spec_l1Below.calls g E X2 a3 4 y4 B4 C4 w0 _ ?side1 ?side2 A39.out).mono ?_); (case side1 => exact ww13a); (case side2 => exact ww13c); rintro e a1 ⟨rfl, hi, hb, hk⟩; refine ⟨_, rfl, ?_⟩; have o0 := zK (KeepBut.blk hk (g' := g0) (o := .cells #[.int .i64 0, .int .i64 0, .int .i64 0, .int .i64 0, .int .i64 0, .int .i64 0, .int .i64 0, .int .i64 0, .int .i64 0, .int .i64 0, .int .i64 0] 35 (0, 0)) (zM z) d0.out (by simp)); have p0 := zK (KeepBut.blk hk (g' := u) (o := .cells #[.int .i64 (wrap64 (1 + X)), .int .i64 L, .int .i64 O, .int .i64 T, .int .i64 U, .int .i64 b0, .int .i64 a0, .int .i64 (wrap64 (1 + c0)), .int .i64 y, .int .i64 A, .int .i64 0] 35 (0, 0)) (zM q) e0.out (by simp)); have q0 := zK (KeepBut.trans (ww13b) hk (.inl rfl)); have s0 := zK (hb); have x0 := zK (hi); revert o0 p0 q0 s0 x0; clear z q HK HB HI0; intro z q HK HB HI0; have b0n := C0.out; have b0o := B0.out; have b0p := e0.out; have b0q := J.out; have N4 : a1.cell? ⟨u, 0, none⟩ = some (.int .i64 (wrap64 (1 + X))) := zy q 0; have O4 : a1.cell? ⟨u, 1, none⟩ = some (.int .i64 L) := zy q 1; have R4 : a1.cell? ⟨u, 2, none⟩ = some (.int .i64 O) := zy q 2; have S4 : a1.cell? ⟨u, 3, none⟩ = some (.int .i64 T) := zy q 3; have T4 : a1.cell? ⟨u, 4, none⟩ = some (.int .i64 U) := zy q 4; have U4 : a1.cell? ⟨u, 5, none⟩ = some (.int .i64 b0) := zy q 5; have V4 : a1.cell? ⟨u, 6, none⟩ = some (.int .i64 a0) := zy q 6; have X4 : a1.cell? ⟨u, 7, none⟩ = some (.int .i64 (wrap64 (1 + c0))) := zy q 7; have a5 : a1.cell? ⟨u, 8, none⟩ = some (.int .i64 y) := zy q 8; have b5 : a1.cell? ⟨u, 9, none⟩ = some (.int .i64 A) := zy q 9; have D4 : a1.cell? ⟨u, 10, none⟩ = some (.int .i64 0) := zy q 10; have d5 := zf q.out 0; have e5 := zf q.out 1; have f5 := zf q.out 2; have g5 := zf q.out 3; have i5 := zf q.out 4; have j5 := zf q.out 5; have l5 := zf q.out 6; have m5 := zf q.out 7; have n5 := zf q.out 8; have o5 := zf q.out 9; have E4 := zf q.out 10))
      go_meet
      case rel => exact ⟨_, (B4), (C4), (wrap64 (1 + y4)), H', ⟨by have := J4.out; have := B5.out; first | omega | exact Nat.le_refl _⟩, ⟨zV z⟩, ⟨zW q⟩, ⟨ww13a⟩, ⟨ww13b⟩, ⟨ww13c⟩⟩
     case rest =>
      clear x4
      try clear c1
      try clear c2
      try clear p2
      try clear c3
      try clear c4
      try clear c5
      try clear c6
      try clear p6
      try clear c7
      try clear m6
      try clear n6
      try clear O2
      try clear o6
      try clear q6
      try clear l3
      try clear c32
      try clear c33
      try clear U3
      try clear c41
      try clear c42
      try clear A1 B1 o1 C1 D1 E1 F1 G1 I1 J1 L1 M1 N1 p1 O1 R1 S1 T1 U1 V1 X1 a2
      try clear b2 d2 q1 e2 f2 g2 i2 l2 m2 n2 o2 q2 s2 s1 t2 x2 y2 B2 C2 D2 E2 F2
      try clear m3 n3 U2 o3 p3 q3 s3 t3 x3 y3 B3 C3 D3 V2 E3 F3 G3 I3 J3 L3 M3 N3
      try clear N4 O4 D4 R4 S4 T4 U4 V4 X4 a5 b5 d5 e5 E4 f5 g5 i5 j5 l5 m5 n5 o5
      try clear p2
      try clear p6
      obtain ⟨kq, F0, G0, D, HA, b2y, z, q, HI0, HK, HB⟩ := hcut
      cases kq with
      | zero => exact absurd HA.out (by simp [spec_l15DrawRule.j2])
      | succ b2z =>
       have H := HA.out
       clear HA
       simp only [spec_l15DrawRule.j2] at H
       replace H := z6 H
       obtain ⟨⟨E5, L0, M0⟩, F5, H⟩ := H
       replace H : (if E5 = true then ((spec_l1Below.f E L0 M0 5).bind fun E0 => (if E0.1 = 0 then ((spec_l1PickInt.f E E0.2.1 E0.2.2 (([0, 4] : List Int))).bind fun R0 => (some (R0.1, L, O, T, U, b0, a0, (wrap64 (1 + c0)), y, A, D, R0.2.1, R0.2.2))) else (if E0.1 = 1 then (some ((wrap64 (1 + X)), L, O, T, U, 65537, a0, (wrap64 (1 + c0)), y, A, D, E0.2.1, E0.2.2)) else (if E0.1 = 2 then (some ((wrap64 (1 + X)), L, O, T, U, b0, a0, 0, y, A, D, E0.2.1, E0.2.2)) else (if E0.1 = 3 then (some ((wrap64 (1 + X)), L, O, T, U, b0, a0, (wrap64 (1 + c0)), y, 1073741825, D, E0.2.1, E0.2.2)) else (if E0.1 = 4 then (some ((wrap64 (1 + X)), L, O, T, U, b0, a0, (wrap64 (1 + c0)), y, A, (-1), E0.2.1, E0.2.2)) else (some ((wrap64 (1 + X)), L, O, T, U, b0, a0, (wrap64 (1 + c0)), y, A, D, E0.2.1, E0.2.2)))))))) else (some ((wrap64 (1 + X)), L, O, T, U, b0, a0, (wrap64 (1 + c0)), y, A, D, L0, M0))) = some (r1, r2, r3, r4, r5, r6, r7, r8, r9, r10, r11, r12, r13) := H
       have b3 := zK F5
       clear F5
       by_cases M4 : E5 = true
       rotate_left
       · replace M4 := Bool.eq_false_iff.mpr M4
         subst M4
         rw [if_neg (show ¬ (false = true) by decide)] at H
         simp only [Option.some.injEq, Prod.mk.injEq] at H
         obtain ⟨rfl, rfl, rfl, rfl, rfl, rfl, rfl, rfl, rfl, rfl, rfl, rfl, rfl⟩ := H
         go_wp2_with (first | ((with_reducible refine gc 76 rfl ?_); refine zF 35 Try.func76 #[.pointer (some ⟨g, 0, none⟩), .int .i64 40] rfl zL ?_; (with_reducible refine (spec_l1Once.calls g E F0 G0 40 false L0 M0 w0 _ ?side1 ?side2 b3.out).mono ?_); (case side1 => exact ww13a); (case side2 => exact ww13c); rintro e b1 ⟨rfl, hi, hb, hk⟩; refine ⟨_, rfl, ?_⟩; have o0 := zK (KeepBut.blk hk (g' := g0) (o := .cells #[.int .i64 0, .int .i64 0, .int .i64 0, .int .i64 0, .int .i64 0, .int .i64 0, .int .i64 0, .int .i64 0, .int .i64 0, .int .i64 0, .int .i64 0] 35 (0, 0)) (zM z) d0.out (by simp)); have p0 := zK (KeepBut.blk hk (g' := u) (o := .cells #[.int .i64 (wrap64 (1 + X)), .int .i64 L, .int .i64 O, .int .i64 T, .int .i64 U, .int .i64 b0, .int .i64 a0, .int .i64 (wrap64 (1 + c0)), .int .i64 y, .int .i64 A, .int .i64 D] 35 (0, 0)) (zM q) e0.out (by simp)); have q0 := zK (KeepBut.trans (ww13b) hk (.inl rfl)); have s0 := zK (hb); have x0 := zK (hi); revert o0 p0 q0 s0 x0; clear z q HK HB HI0; intro z q HK HB HI0; have a9o := C0.out; have a9p := B0.out; have a9q := e0.out; have a9s := J.out; have C6 : b1.cell? ⟨u, 0, none⟩ = some (.int .i64 (wrap64 (1 + X))) := zy q 0; have D6 : b1.cell? ⟨u, 1, none⟩ = some (.int .i64 L) := zy q 1; have E6 : b1.cell? ⟨u, 2, none⟩ = some (.int .i64 O) := zy q 2; have F6 : b1.cell? ⟨u, 3, none⟩ = some (.int .i64 T) := zy q 3; have G6 : b1.cell? ⟨u, 4, none⟩ = some (.int .i64 U) := zy q 4; have I6 : b1.cell? ⟨u, 5, none⟩ = some (.int .i64 b0) := zy q 5; have J6 : b1.cell? ⟨u, 6, none⟩ = some (.int .i64 a0) := zy q 6; have L6 : b1.cell? ⟨u, 7, none⟩ = some (.int .i64 (wrap64 (1 + c0))) := zy q 7; have M6 : b1.cell? ⟨u, 8, none⟩ = some (.int .i64 y) := zy q 8; have N6 : b1.cell? ⟨u, 9, none⟩ = some (.int .i64 A) := zy q 9; have s6 : b1.cell? ⟨u, 10, none⟩ = some (.int .i64 D) := zy q 10; have O6 := zf q.out 0; have R6 := zf q.out 1; have S6 := zf q.out 2; have T6 := zf q.out 3; have U6 := zf q.out 4; have V6 := zf q.out 5; have X6 := zf q.out 6; have a7 := zf q.out 7; have b7 := zf q.out 8; have d7 := zf q.out 9; have t6 := zf q.out 10; have a9t := d0.out; have a9u := I.out; obtain ⟨e7, f7, g7, i7, j7, l7, m7, n7, o7, p7, x6, q7, s7, t7, x7, y7, B7, C7, D7, E7, F7, y6⟩ := zc11 z))
         refine bodyPost_ret (results_cell_row rfl _ _ g0 35 #[.int .i64 (wrap64 (1 + X)), .int .i64 L, .int .i64 O, .int .i64 T, .int .i64 U, .int .i64 b0, .int .i64 a0, .int .i64 (wrap64 (1 + c0)), .int .i64 y, .int .i64 A, .int .i64 D] (0, 0) _ rfl (zW z) Try.underlying35 rfl (by kernel_rfl)) rfl ?_
         exact ⟨zE, ww13a, ww13c, ww13b⟩
       subst M4
       rw [if_pos rfl] at H
       replace H := z6 H
       obtain ⟨⟨J0, N0, O0⟩, G5, H⟩ := H
       replace H : (if J0 = 0 then ((spec_l1PickInt.f E N0 O0 (([0, 4] : List Int))).bind fun R0 => (some (R0.1, L, O, T, U, b0, a0, (wrap64 (1 + c0)), y, A, D, R0.2.1, R0.2.2))) else (if J0 = 1 then (some ((wrap64 (1 + X)), L, O, T, U, 65537, a0, (wrap64 (1 + c0)), y, A, D, N0, O0)) else (if J0 = 2 then (some ((wrap64 (1 + X)), L, O, T, U, b0, a0, 0, y, A, D, N0, O0)) else (if J0 = 3 then (some ((wrap64 (1 + X)), L, O, T, U, b0, a0, (wrap64 (1 + c0)), y, 1073741825, D, N0, O0)) else (if J0 = 4 then (some ((wrap64 (1 + X)), L, O, T, U, b0, a0, (wrap64 (1 + c0)), y, A, (-1), N0, O0)) else (some ((wrap64 (1 + X)), L, O, T, U, b0, a0, (wrap64 (1 + c0)), y, A, D, N0, O0))))))) = some (r1, r2, r3, r4, r5, r6, r7, r8, r9, r10, r11, r12, r13) := H
       have O3 := zK G5
       clear G5
       by_cases d3 : J0 = 0
       · rw [if_pos d3] at H
         have R5 := beq_iff_eq.mpr d3
         have S5 := bne_eq_false_iff_eq.mpr d3
         clear d3
         obtain ⟨F4, t1⟩ : ∃ y_ : List Int, y_ = (([0, 4] : List Int)) := ⟨_, rfl⟩
         replace H : ((spec_l1PickInt.f E N0 O0 F4).bind fun R0 => (some (R0.1, L, O, T, U, b0, a0, (wrap64 (1 + c0)), y, A, D, R0.2.1, R0.2.2))) = some (r1, r2, r3, r4, r5, r6, r7, r8, r9, r10, r11, r12, r13) := by first | (rw [t1]; with_reducible exact H) | (have I5 := (Option.bind_some _ _).symm.trans H; rw [t1]; with_reducible exact I5) | (have I5 := (Option.bind_some _ _).symm.trans H; with_reducible exact I5) | with_reducible exact H | (rw [t1]; exact H) | exact H
         have Ny433 := zK t1
         clear t1
         replace H := z6 H
         obtain ⟨⟨G4, J5, L5⟩, M5, H⟩ := H
         replace H : (some (G4, L, O, T, U, b0, a0, (wrap64 (1 + c0)), y, A, D, J5, L5)) = some (r1, r2, r3, r4, r5, r6, r7, r8, r9, r10, r11, r12, r13) := H
         have A48 := zK M5
         clear M5
         simp only [Option.some.injEq, Prod.mk.injEq] at H
         obtain ⟨rfl, rfl, rfl, rfl, rfl, rfl, rfl, rfl, rfl, rfl, rfl, rfl, rfl⟩ := H
         go_wp2_with (first | ((with_reducible refine gc 76 rfl ?_); refine zF 35 Try.func76 #[.pointer (some ⟨g, 0, none⟩), .int .i64 40] rfl zL ?_; (with_reducible refine (spec_l1Once.calls g E F0 G0 40 true L0 M0 w0 _ ?side1 ?side2 b3.out).mono ?_); (case side1 => exact ww13a); (case side2 => exact ww13c); rintro e w49 ⟨rfl, hi, hb, hk⟩; refine ⟨_, rfl, ?_⟩; have o0 := zK (KeepBut.blk hk (g' := g0) (o := .cells #[.int .i64 0, .int .i64 0, .int .i64 0, .int .i64 0, .int .i64 0, .int .i64 0, .int .i64 0, .int .i64 0, .int .i64 0, .int .i64 0, .int .i64 0] 35 (0, 0)) (zM z) d0.out (by simp)); have p0 := zK (KeepBut.blk hk (g' := u) (o := .cells #[.int .i64 (wrap64 (1 + X)), .int .i64 L, .int .i64 O, .int .i64 T, .int .i64 U, .int .i64 b0, .int .i64 a0, .int .i64 (wrap64 (1 + c0)), .int .i64 y, .int .i64 A, .int .i64 D] 35 (0, 0)) (zM q) e0.out (by simp)); have q0 := zK (KeepBut.trans (ww13b) hk (.inl rfl)); have s0 := zK (hb); have x0 := zK (hi); revert o0 p0 q0 s0 x0; clear z q HK HB HI0; intro z q HK HB HI0) | ((with_reducible refine gc 60 rfl ?_); refine zF 37 Try.func60 #[.pointer (some ⟨g, 0, none⟩), .int .i64 5] rfl zL ?_; (with_reducible refine (spec_l1Below.calls g E L0 M0 5 J0 N0 O0 w0 _ ?side1 ?side2 O3.out).mono ?_); (case side1 => exact ww13a); (case side2 => exact ww13c); rintro e w50 ⟨rfl, hi, hb, hk⟩; refine ⟨_, rfl, ?_⟩; have o0 := zK (KeepBut.blk hk (g' := g0) (o := .cells #[.int .i64 0, .int .i64 0, .int .i64 0, .int .i64 0, .int .i64 0, .int .i64 0, .int .i64 0, .int .i64 0, .int .i64 0, .int .i64 0, .int .i64 0] 35 (0, 0)) (zM z) d0.out (by simp)); have p0 := zK (KeepBut.blk hk (g' := u) (o := .cells #[.int .i64 (wrap64 (1 + X)), .int .i64 L, .int .i64 O, .int .i64 T, .int .i64 U, .int .i64 b0, .int .i64 a0, .int .i64 (wrap64 (1 + c0)), .int .i64 y, .int .i64 A, .int .i64 D] 35 (0, 0)) (zM q) e0.out (by simp)); have q0 := zK (KeepBut.trans (ww13b) hk (.inl rfl)); have s0 := zK (hb); have x0 := zK (hi); revert o0 p0 q0 s0 x0; clear z q HK HB HI0; intro z q HK HB HI0) | ((with_reducible refine gd 41 rfl ?_); refine Kd.R_lit (Kd.int .i64) _ 3 ?hg (N := 41) ?hd (xs := ([0, 4] : List Int)) (inner := [.int .i64 0, .int .i64 4]) (ok := fun _ => True) (okp := fun _ => True) ?hr ?hp (fun _ hk => hk) trivial (Below.refl _ _) (Nat.le_refl _) (by simp) ?_; (case hd => rfl); (case hg => rfl); (case hr => first | (go_simp; done) | (go_simp; rfl)); (case hp => exact (Reps.one (show Kd.M (Kd.int .i64) _ _ _ 0 [.int .i64 0] from rfl) (Reps.one (show Kd.M (Kd.int .i64) _ _ _ 4 [.int .i64 4] from rfl) (Reps.none _ _)))); intro v434 w51 e3 hb hg_ hnew_; clear hg_ hnew_; (first | rw [← Ny433.out] at e3 | (simp only [Int.reduceToNat] at e3; rw [← Ny433.out] at e3)); have o0 := zK (Kd.R_lower e3 (keep_size (w := w) (g := g) (row := none) (ww13b))); have p0 := z7 z hb; have q0 := z7 q hb; have s0 := zK (IsS94.below (ww13a) hb); have x0 := zK (KeepBut.trans (ww13b) (KeepBut.of_below hb g none) (.inl rfl)); have N2 := zK (zp (ww13c) hb); revert o0 p0 q0 s0 x0 N2; clear z q HI0 HK HB; intro U0 z q HI0 HK HB; clear hb e3; obtain ⟨G7, I7, J7⟩ := Kd.R_slice U0.out; subst J7) | ((with_reducible refine gc 77 rfl ?_); refine zF 42 Try.func77 #[.pointer (some ⟨g, 0, none⟩), .slice G7 F4.length I7] rfl zL ?_; (with_reducible refine (spec_l1PickInt.calls g E N0 O0 _ _ F4 G4 J5 L5 w0 _ ?side1 ?side2 ?side3 ?side4 ?side5 A48.out).mono ?_); (case side1 => exact ww13a); (case side2 => exact ww13c); (case side3 => exact zC (Kd.R_reads' U0.out).2.2); (case side4 => exact (Kd.R_reads' U0.out).2.1); (case side5 => exact far_slice (IsS94.own_ne HI0.out U0.out (by decide))); rintro e d1 ⟨rfl, hi, hb, hk⟩; refine ⟨_, rfl, ?_⟩; have o0 := zK (KeepBut.blk hk (g' := g0) (o := .cells #[.int .i64 0, .int .i64 0, .int .i64 0, .int .i64 0, .int .i64 0, .int .i64 0, .int .i64 0, .int .i64 0, .int .i64 0, .int .i64 0, .int .i64 0] 35 (0, 0)) (zM z) d0.out (by simp)); have p0 := zK (KeepBut.blk hk (g' := u) (o := .cells #[.int .i64 (wrap64 (1 + X)), .int .i64 L, .int .i64 O, .int .i64 T, .int .i64 U, .int .i64 b0, .int .i64 a0, .int .i64 (wrap64 (1 + c0)), .int .i64 y, .int .i64 A, .int .i64 D] 35 (0, 0)) (zM q) e0.out (by simp)); have q0 := zK (Kd.R_mono (Kd.R_keep (IsS94.apart (show IsS94 w0 _ g E N0 O0 from ww13a) (zkR U0) (by decide)) hk (fun _ h => h.2)) (fun _ h => h.1)); have s0 := zK (KeepBut.trans (ww13b) hk (.inl rfl)); have x0 := zK (hb); have N2 := zK (hi); revert o0 p0 q0 s0 x0 N2; clear z q U0 HK HB HI0; intro z q U0 HK HB HI0; have b0s := C0.out; have b0t := B0.out; have b0u := e0.out; have b0x := J.out; have q8 : d1.cell? ⟨u, 0, none⟩ = some (.int .i64 (wrap64 (1 + X))) := zy q 0; have s8 : d1.cell? ⟨u, 1, none⟩ = some (.int .i64 L) := zy q 1; have t8 : d1.cell? ⟨u, 2, none⟩ = some (.int .i64 O) := zy q 2; have x8 : d1.cell? ⟨u, 3, none⟩ = some (.int .i64 T) := zy q 3; have y8 : d1.cell? ⟨u, 4, none⟩ = some (.int .i64 U) := zy q 4; have A8 : d1.cell? ⟨u, 5, none⟩ = some (.int .i64 b0) := zy q 5; have B8 : d1.cell? ⟨u, 6, none⟩ = some (.int .i64 a0) := zy q 6; have C8 : d1.cell? ⟨u, 7, none⟩ = some (.int .i64 (wrap64 (1 + c0))) := zy q 7; have D8 : d1.cell? ⟨u, 8, none⟩ = some (.int .i64 y) := zy q 8; have E8 : d1.cell? ⟨u, 9, none⟩ = some (.int .i64 A) := zy q 9; have L7 : d1.cell? ⟨u, 10, none⟩ = some (.int .i64 D) := zy q 10; have F8 := zf q.out 0; have G8 := zf q.out 1; have I8 := zf q.out 2; have J8 := zf q.out 3; have L8 := zf q.out 4; have M8 := zf q.out 5; have N8 := zf q.out 6; have O8 := zf q.out 7; have R8 := zf q.out 8; have S8 := zf q.out 9; have M7 := zf q.out 10; have b0y := d0.out; have b0z := I.out; obtain ⟨T8, U8, V8, X8, a9, b9, c9, d9, e9, f9, N7, g9, i9, j9, l9, m9, n9, o9, p9, q9, s9, O7⟩ := zc11 z))
         refine bodyPost_ret (results_cell_row rfl _ _ g0 35 #[.int .i64 G4, .int .i64 L, .int .i64 O, .int .i64 T, .int .i64 U, .int .i64 b0, .int .i64 a0, .int .i64 (wrap64 (1 + c0)), .int .i64 y, .int .i64 A, .int .i64 D] (0, 0) _ rfl (zW z) Try.underlying35 rfl (by kernel_rfl)) rfl ?_
         exact ⟨zE, ww13a, ww13c, ww13b⟩
       rw [if_neg d3] at H
       have R5 := beq_eq_false_iff_ne.mpr d3
       have S5 := bne_iff_ne.mpr d3
       by_cases f3 : J0 = 1
       · rw [if_pos f3] at H
         have T5 := beq_iff_eq.mpr f3
         have U5 := bne_eq_false_iff_eq.mpr f3
         clear f3
         simp only [Option.some.injEq, Prod.mk.injEq] at H
         obtain ⟨rfl, rfl, rfl, rfl, rfl, rfl, rfl, rfl, rfl, rfl, rfl, rfl, rfl⟩ := H
         go_wp2_with (first | ((with_reducible refine gc 76 rfl ?_); refine zF 35 Try.func76 #[.pointer (some ⟨g, 0, none⟩), .int .i64 40] rfl zL ?_; (with_reducible refine (spec_l1Once.calls g E F0 G0 40 true L0 M0 w0 _ ?side1 ?side2 b3.out).mono ?_); (case side1 => exact ww13a); (case side2 => exact ww13c); rintro e w61 ⟨rfl, hi, hb, hk⟩; refine ⟨_, rfl, ?_⟩; have o0 := zK (KeepBut.blk hk (g' := g0) (o := .cells #[.int .i64 0, .int .i64 0, .int .i64 0, .int .i64 0, .int .i64 0, .int .i64 0, .int .i64 0, .int .i64 0, .int .i64 0, .int .i64 0, .int .i64 0] 35 (0, 0)) (zM z) d0.out (by simp)); have p0 := zK (KeepBut.blk hk (g' := u) (o := .cells #[.int .i64 (wrap64 (1 + X)), .int .i64 L, .int .i64 O, .int .i64 T, .int .i64 U, .int .i64 b0, .int .i64 a0, .int .i64 (wrap64 (1 + c0)), .int .i64 y, .int .i64 A, .int .i64 D] 35 (0, 0)) (zM q) e0.out (by simp)); have q0 := zK (KeepBut.trans (ww13b) hk (.inl rfl)); have s0 := zK (hb); have x0 := zK (hi); revert o0 p0 q0 s0 x0; clear z q HK HB HI0; intro z q HK HB HI0) | ((with_reducible refine gc 60 rfl ?_); refine zF 37 Try.func60 #[.pointer (some ⟨g, 0, none⟩), .int .i64 5] rfl zL ?_; (with_reducible refine (spec_l1Below.calls g E L0 M0 5 J0 N0 O0 w0 _ ?side1 ?side2 O3.out).mono ?_); (case side1 => exact ww13a); (case side2 => exact ww13c); rintro e e1 ⟨rfl, hi, hb, hk⟩; refine ⟨_, rfl, ?_⟩; have o0 := zK (KeepBut.blk hk (g' := g0) (o := .cells #[.int .i64 0, .int .i64 0, .int .i64 0, .int .i64 0, .int .i64 0, .int .i64 0, .int .i64 0, .int .i64 0, .int .i64 0, .int .i64 0, .int .i64 0] 35 (0, 0)) (zM z) d0.out (by simp)); have p0 := zK (KeepBut.blk hk (g' := u) (o := .cells #[.int .i64 (wrap64 (1 + X)), .int .i64 L, .int .i64 O, .int .i64 T, .int .i64 U, .int .i64 b0, .int .i64 a0, .int .i64 (wrap64 (1 + c0)), .int .i64 y, .int .i64 A, .int .i64 D] 35 (0, 0)) (zM q) e0.out (by simp)); have q0 := zK (KeepBut.trans (ww13b) hk (.inl rfl)); have s0 := zK (hb); have x0 := zK (hi); revert o0 p0 q0 s0 x0; clear z q HK HB HI0; intro z q HK HB HI0; have b1a := C0.out; have b1b := B0.out; have b1c := e0.out; have b1d := J.out; have t9 : e1.cell? ⟨u, 0, none⟩ = some (.int .i64 (wrap64 (1 + X))) := zy q 0; have x9 : e1.cell? ⟨u, 1, none⟩ = some (.int .i64 L) := zy q 1; have y9 : e1.cell? ⟨u, 2, none⟩ = some (.int .i64 O) := zy q 2; have A9 : e1.cell? ⟨u, 3, none⟩ = some (.int .i64 T) := zy q 3; have B9 : e1.cell? ⟨u, 4, none⟩ = some (.int .i64 U) := zy q 4; have C9 : e1.cell? ⟨u, 5, none⟩ = some (.int .i64 b0) := zy q 5; have D9 : e1.cell? ⟨u, 6, none⟩ = some (.int .i64 a0) := zy q 6; have E9 : e1.cell? ⟨u, 7, none⟩ = some (.int .i64 (wrap64 (1 + c0))) := zy q 7; have F9 : e1.cell? ⟨u, 8, none⟩ = some (.int .i64 y) := zy q 8; have G9 : e1.cell? ⟨u, 9, none⟩ = some (.int .i64 A) := zy q 9; have R7 : e1.cell? ⟨u, 10, none⟩ = some (.int .i64 D) := zy q 10; have I9 := zf q.out 0; have J9 := zf q.out 1; have L9 := zf q.out 2; have M9 := zf q.out 3; have N9 := zf q.out 4; have O9 := zf q.out 5; have R9 := zf q.out 6; have S9 := zf q.out 7; have T9 := zf q.out 8; have U9 := zf q.out 9; have S7 := zf q.out 10; have b1e := d0.out; have b1f := I.out; obtain ⟨V9, X9, a0a, a0b, a0c, a0d, a0e, a0f, a0g, a0j, T7, a0l, a0m, a0n, a0o, a0p, a0q, a0s, a0t, a0u, a0x, U7⟩ := zc11 z))
         refine bodyPost_ret (results_cell_row rfl _ _ g0 35 #[.int .i64 (wrap64 (1 + X)), .int .i64 L, .int .i64 O, .int .i64 T, .int .i64 U, .int .i64 65537, .int .i64 a0, .int .i64 (wrap64 (1 + c0)), .int .i64 y, .int .i64 A, .int .i64 D] (0, 0) _ rfl (zW z) Try.underlying35 rfl (by kernel_rfl)) rfl ?_
         exact ⟨zE, ww13a, ww13c, ww13b⟩
       rw [if_neg f3] at H
       have T5 := beq_eq_false_iff_ne.mpr f3
       have U5 := bne_iff_ne.mpr f3
       by_cases g3 : J0 = 2
       · rw [if_pos g3] at H
         have V5 := beq_iff_eq.mpr g3
         have X5 := bne_eq_false_iff_eq.mpr g3
         clear g3
         simp only [Option.some.injEq, Prod.mk.injEq] at H
         obtain ⟨rfl, rfl, rfl, rfl, rfl, rfl, rfl, rfl, rfl, rfl, rfl, rfl, rfl⟩ := H
         go_wp2_with (first | ((with_reducible refine gc 76 rfl ?_); refine zF 35 Try.func76 #[.pointer (some ⟨g, 0, none⟩), .int .i64 40] rfl zL ?_; (with_reducible refine (spec_l1Once.calls g E F0 G0 40 true L0 M0 w0 _ ?side1 ?side2 b3.out).mono ?_); (case side1 => exact ww13a); (case side2 => exact ww13c); rintro e w69 ⟨rfl, hi, hb, hk⟩; refine ⟨_, rfl, ?_⟩; have o0 := zK (KeepBut.blk hk (g' := g0) (o := .cells #[.int .i64 0, .int .i64 0, .int .i64 0, .int .i64 0, .int .i64 0, .int .i64 0, .int .i64 0, .int .i64 0, .int .i64 0, .int .i64 0, .int .i64 0] 35 (0, 0)) (zM z) d0.out (by simp)); have p0 := zK (KeepBut.blk hk (g' := u) (o := .cells #[.int .i64 (wrap64 (1 + X)), .int .i64 L, .int .i64 O, .int .i64 T, .int .i64 U, .int .i64 b0, .int .i64 a0, .int .i64 (wrap64 (1 + c0)), .int .i64 y, .int .i64 A, .int .i64 D] 35 (0, 0)) (zM q) e0.out (by simp)); have q0 := zK (KeepBut.trans (ww13b) hk (.inl rfl)); have s0 := zK (hb); have x0 := zK (hi); revert o0 p0 q0 s0 x0; clear z q HK HB HI0; intro z q HK HB HI0) | ((with_reducible refine gc 60 rfl ?_); refine zF 37 Try.func60 #[.pointer (some ⟨g, 0, none⟩), .int .i64 5] rfl zL ?_; (with_reducible refine (spec_l1Below.calls g E L0 M0 5 J0 N0 O0 w0 _ ?side1 ?side2 O3.out).mono ?_); (case side1 => exact ww13a); (case side2 => exact ww13c); rintro e f1 ⟨rfl, hi, hb, hk⟩; refine ⟨_, rfl, ?_⟩; have o0 := zK (KeepBut.blk hk (g' := g0) (o := .cells #[.int .i64 0, .int .i64 0, .int .i64 0, .int .i64 0, .int .i64 0, .int .i64 0, .int .i64 0, .int .i64 0, .int .i64 0, .int .i64 0, .int .i64 0] 35 (0, 0)) (zM z) d0.out (by simp)); have p0 := zK (KeepBut.blk hk (g' := u) (o := .cells #[.int .i64 (wrap64 (1 + X)), .int .i64 L, .int .i64 O, .int .i64 T, .int .i64 U, .int .i64 b0, .int .i64 a0, .int .i64 (wrap64 (1 + c0)), .int .i64 y, .int .i64 A, .int .i64 D] 35 (0, 0)) (zM q) e0.out (by simp)); have q0 := zK (KeepBut.trans (ww13b) hk (.inl rfl)); have s0 := zK (hb); have x0 := zK (hi); revert o0 p0 q0 s0 x0; clear z q HK HB HI0; intro z q HK HB HI0; have b1g := C0.out; have b1j := B0.out; have b1l := e0.out; have b1m := J.out; have a0y : f1.cell? ⟨u, 0, none⟩ = some (.int .i64 (wrap64 (1 + X))) := zy q 0; have a0z : f1.cell? ⟨u, 1, none⟩ = some (.int .i64 L) := zy q 1; have a1a : f1.cell? ⟨u, 2, none⟩ = some (.int .i64 O) := zy q 2; have a1b : f1.cell? ⟨u, 3, none⟩ = some (.int .i64 T) := zy q 3; have a1c : f1.cell? ⟨u, 4, none⟩ = some (.int .i64 U) := zy q 4; have a1d : f1.cell? ⟨u, 5, none⟩ = some (.int .i64 b0) := zy q 5; have a1e : f1.cell? ⟨u, 6, none⟩ = some (.int .i64 a0) := zy q 6; have a1f : f1.cell? ⟨u, 7, none⟩ = some (.int .i64 (wrap64 (1 + c0))) := zy q 7; have a1g : f1.cell? ⟨u, 8, none⟩ = some (.int .i64 y) := zy q 8; have a1j : f1.cell? ⟨u, 9, none⟩ = some (.int .i64 A) := zy q 9; have V7 : f1.cell? ⟨u, 10, none⟩ = some (.int .i64 D) := zy q 10; have a1l := zf q.out 0; have a1m := zf q.out 1; have a1n := zf q.out 2; have a1o := zf q.out 3; have a1p := zf q.out 4; have a1q := zf q.out 5; have a1s := zf q.out 6; have a1t := zf q.out 7; have a1u := zf q.out 8; have a1x := zf q.out 9; have X7 := zf q.out 10; have b1n := d0.out; have b1o := I.out; obtain ⟨a1y, a1z, a2a, a2b, a2c, a2d, a2e, a2f, a2g, a2j, a8, a2l, a2m, a2n, a2o, a2p, a2q, a2s, a2t, a2u, a2x, b8⟩ := zc11 z))
         refine bodyPost_ret (results_cell_row rfl _ _ g0 35 #[.int .i64 (wrap64 (1 + X)), .int .i64 L, .int .i64 O, .int .i64 T, .int .i64 U, .int .i64 b0, .int .i64 a0, .int .i64 0, .int .i64 y, .int .i64 A, .int .i64 D] (0, 0) _ rfl (zW z) Try.underlying35 rfl (by kernel_rfl)) rfl ?_
         exact ⟨zE, ww13a, ww13c, ww13b⟩
       rw [if_neg g3] at H
       have V5 := beq_eq_false_iff_ne.mpr g3
       have X5 := bne_iff_ne.mpr g3
       by_cases i3 : J0 = 3
       · rw [if_pos i3] at H
         have a6 := beq_iff_eq.mpr i3
         have b6 := bne_eq_false_iff_eq.mpr i3
         clear i3
         simp only [Option.some.injEq, Prod.mk.injEq] at H
         obtain ⟨rfl, rfl, rfl, rfl, rfl, rfl, rfl, rfl, rfl, rfl, rfl, rfl, rfl⟩ := H
         go_wp2_with (first | ((with_reducible refine gc 76 rfl ?_); refine zF 35 Try.func76 #[.pointer (some ⟨g, 0, none⟩), .int .i64 40] rfl zL ?_; (with_reducible refine (spec_l1Once.calls g E F0 G0 40 true L0 M0 w0 _ ?side1 ?side2 b3.out).mono ?_); (case side1 => exact ww13a); (case side2 => exact ww13c); rintro e w77 ⟨rfl, hi, hb, hk⟩; refine ⟨_, rfl, ?_⟩; have o0 := zK (KeepBut.blk hk (g' := g0) (o := .cells #[.int .i64 0, .int .i64 0, .int .i64 0, .int .i64 0, .int .i64 0, .int .i64 0, .int .i64 0, .int .i64 0, .int .i64 0, .int .i64 0, .int .i64 0] 35 (0, 0)) (zM z) d0.out (by simp)); have p0 := zK (KeepBut.blk hk (g' := u) (o := .cells #[.int .i64 (wrap64 (1 + X)), .int .i64 L, .int .i64 O, .int .i64 T, .int .i64 U, .int .i64 b0, .int .i64 a0, .int .i64 (wrap64 (1 + c0)), .int .i64 y, .int .i64 A, .int .i64 D] 35 (0, 0)) (zM q) e0.out (by simp)); have q0 := zK (KeepBut.trans (ww13b) hk (.inl rfl)); have s0 := zK (hb); have x0 := zK (hi); revert o0 p0 q0 s0 x0; clear z q HK HB HI0; intro z q HK HB HI0) | ((with_reducible refine gc 60 rfl ?_); refine zF 37 Try.func60 #[.pointer (some ⟨g, 0, none⟩), .int .i64 5] rfl zL ?_; (with_reducible refine (spec_l1Below.calls g E L0 M0 5 J0 N0 O0 w0 _ ?side1 ?side2 O3.out).mono ?_); (case side1 => exact ww13a); (case side2 => exact ww13c); rintro e g1 ⟨rfl, hi, hb, hk⟩; refine ⟨_, rfl, ?_⟩; have o0 := zK (KeepBut.blk hk (g' := g0) (o := .cells #[.int .i64 0, .int .i64 0, .int .i64 0, .int .i64 0, .int .i64 0, .int .i64 0, .int .i64 0, .int .i64 0, .int .i64 0, .int .i64 0, .int .i64 0] 35 (0, 0)) (zM z) d0.out (by simp)); have p0 := zK (KeepBut.blk hk (g' := u) (o := .cells #[.int .i64 (wrap64 (1 + X)), .int .i64 L, .int .i64 O, .int .i64 T, .int .i64 U, .int .i64 b0, .int .i64 a0, .int .i64 (wrap64 (1 + c0)), .int .i64 y, .int .i64 A, .int .i64 D] 35 (0, 0)) (zM q) e0.out (by simp)); have q0 := zK (KeepBut.trans (ww13b) hk (.inl rfl)); have s0 := zK (hb); have x0 := zK (hi); revert o0 p0 q0 s0 x0; clear z q HK HB HI0; intro z q HK HB HI0; have b1p := C0.out; have b1q := B0.out; have b1s := e0.out; have b1t := J.out; have a2y : g1.cell? ⟨u, 0, none⟩ = some (.int .i64 (wrap64 (1 + X))) := zy q 0; have a2z : g1.cell? ⟨u, 1, none⟩ = some (.int .i64 L) := zy q 1; have a3a : g1.cell? ⟨u, 2, none⟩ = some (.int .i64 O) := zy q 2; have a3b : g1.cell? ⟨u, 3, none⟩ = some (.int .i64 T) := zy q 3; have a3c : g1.cell? ⟨u, 4, none⟩ = some (.int .i64 U) := zy q 4; have a3d : g1.cell? ⟨u, 5, none⟩ = some (.int .i64 b0) := zy q 5; have a3e : g1.cell? ⟨u, 6, none⟩ = some (.int .i64 a0) := zy q 6; have a3f : g1.cell? ⟨u, 7, none⟩ = some (.int .i64 (wrap64 (1 + c0))) := zy q 7; have a3g : g1.cell? ⟨u, 8, none⟩ = some (.int .i64 y) := zy q 8; have a3j : g1.cell? ⟨u, 9, none⟩ = some (.int .i64 A) := zy q 9; have c8 : g1.cell? ⟨u, 10, none⟩ = some (.int .i64 D) := zy q 10; have a3l := zf q.out 0; have a3m := zf q.out 1; have a3n := zf q.out 2; have a3o := zf q.out 3; have a3p := zf q.out 4; have a3q := zf q.out 5; have a3s := zf q.out 6; have a3t := zf q.out 7; have a3u := zf q.out 8; have a3x := zf q.out 9; have d8 := zf q.out 10; have b1u := d0.out; have b1x := I.out; obtain ⟨a3y, a3z, a4a, a4b, a4c, a4d, a4e, a4f, a4g, a4j, e8, a4l, a4m, a4n, a4o, a4p, a4q, a4s, a4t, a4u, a4x, f8⟩ := zc11 z))
         refine bodyPost_ret (results_cell_row rfl _ _ g0 35 #[.int .i64 (wrap64 (1 + X)), .int .i64 L, .int .i64 O, .int .i64 T, .int .i64 U, .int .i64 b0, .int .i64 a0, .int .i64 (wrap64 (1 + c0)), .int .i64 y, .int .i64 1073741825, .int .i64 D] (0, 0) _ rfl (zW z) Try.underlying35 rfl (by kernel_rfl)) rfl ?_
         exact ⟨zE, ww13a, ww13c, ww13b⟩
       rw [if_neg i3] at H
       have a6 := beq_eq_false_iff_ne.mpr i3
       have b6 := bne_iff_ne.mpr i3
       by_cases j3 : J0 = 4
       rotate_left
       · rw [if_neg j3] at H
         have d6 := beq_eq_false_iff_ne.mpr j3
         have e6 := bne_iff_ne.mpr j3
         simp only [Option.some.injEq, Prod.mk.injEq] at H
         obtain ⟨rfl, rfl, rfl, rfl, rfl, rfl, rfl, rfl, rfl, rfl, rfl, rfl, rfl⟩ := H
         go_wp2_with (first | ((with_reducible refine gc 76 rfl ?_); refine zF 35 Try.func76 #[.pointer (some ⟨g, 0, none⟩), .int .i64 40] rfl zL ?_; (with_reducible refine (spec_l1Once.calls g E F0 G0 40 true L0 M0 w0 _ ?side1 ?side2 b3.out).mono ?_); (case side1 => exact ww13a); (case side2 => exact ww13c); rintro e w92 ⟨rfl, hi, hb, hk⟩; refine ⟨_, rfl, ?_⟩; have o0 := zK (KeepBut.blk hk (g' := g0) (o := .cells #[.int .i64 0, .int .i64 0, .int .i64 0, .int .i64 0, .int .i64 0, .int .i64 0, .int .i64 0, .int .i64 0, .int .i64 0, .int .i64 0, .int .i64 0] 35 (0, 0)) (zM z) d0.out (by simp)); have p0 := zK (KeepBut.blk hk (g' := u) (o := .cells #[.int .i64 (wrap64 (1 + X)), .int .i64 L, .int .i64 O, .int .i64 T, .int .i64 U, .int .i64 b0, .int .i64 a0, .int .i64 (wrap64 (1 + c0)), .int .i64 y, .int .i64 A, .int .i64 D] 35 (0, 0)) (zM q) e0.out (by simp)); have q0 := zK (KeepBut.trans (ww13b) hk (.inl rfl)); have s0 := zK (hb); have x0 := zK (hi); revert o0 p0 q0 s0 x0; clear z q HK HB HI0; intro z q HK HB HI0) | ((with_reducible refine gc 60 rfl ?_); refine zF 37 Try.func60 #[.pointer (some ⟨g, 0, none⟩), .int .i64 5] rfl zL ?_; (with_reducible refine (spec_l1Below.calls g E L0 M0 5 J0 N0 O0 w0 _ ?side1 ?side2 O3.out).mono ?_); (case side1 => exact ww13a); (case side2 => exact ww13c); rintro e i1 ⟨rfl, hi, hb, hk⟩; refine ⟨_, rfl, ?_⟩; have o0 := zK (KeepBut.blk hk (g' := g0) (o := .cells #[.int .i64 0, .int .i64 0, .int .i64 0, .int .i64 0, .int .i64 0, .int .i64 0, .int .i64 0, .int .i64 0, .int .i64 0, .int .i64 0, .int .i64 0] 35 (0, 0)) (zM z) d0.out (by simp)); have p0 := zK (KeepBut.blk hk (g' := u) (o := .cells #[.int .i64 (wrap64 (1 + X)), .int .i64 L, .int .i64 O, .int .i64 T, .int .i64 U, .int .i64 b0, .int .i64 a0, .int .i64 (wrap64 (1 + c0)), .int .i64 y, .int .i64 A, .int .i64 D] 35 (0, 0)) (zM q) e0.out (by simp)); have q0 := zK (KeepBut.trans (ww13b) hk (.inl rfl)); have s0 := zK (hb); have x0 := zK (hi); revert o0 p0 q0 s0 x0; clear z q HK HB HI0; intro z q HK HB HI0; have b1y := C0.out; have b1z := B0.out; have b2a := e0.out; have b2b := J.out; have a4y : i1.cell? ⟨u, 0, none⟩ = some (.int .i64 (wrap64 (1 + X))) := zy q 0; have a4z : i1.cell? ⟨u, 1, none⟩ = some (.int .i64 L) := zy q 1; have a5a : i1.cell? ⟨u, 2, none⟩ = some (.int .i64 O) := zy q 2; have a5b : i1.cell? ⟨u, 3, none⟩ = some (.int .i64 T) := zy q 3; have a5c : i1.cell? ⟨u, 4, none⟩ = some (.int .i64 U) := zy q 4; have a5d : i1.cell? ⟨u, 5, none⟩ = some (.int .i64 b0) := zy q 5; have a5e : i1.cell? ⟨u, 6, none⟩ = some (.int .i64 a0) := zy q 6; have a5f : i1.cell? ⟨u, 7, none⟩ = some (.int .i64 (wrap64 (1 + c0))) := zy q 7; have a5g : i1.cell? ⟨u, 8, none⟩ = some (.int .i64 y) := zy q 8; have a5j : i1.cell? ⟨u, 9, none⟩ = some (.int .i64 A) := zy q 9; have g8 : i1.cell? ⟨u, 10, none⟩ = some (.int .i64 D) := zy q 10; have a5l := zf q.out 0; have a5m := zf q.out 1; have a5n := zf q.out 2; have a5o := zf q.out 3; have a5p := zf q.out 4; have a5q := zf q.out 5; have a5s := zf q.out 6; have a5t := zf q.out 7; have a5u := zf q.out 8; have a5x := zf q.out 9; have i8 := zf q.out 10; have b2c := d0.out; have b2d := I.out; obtain ⟨a5y, a5z, a6a, a6b, a6c, a6d, a6e, a6f, a6g, a6j, j8, a6l, a6m, a6n, a6o, a6p, a6q, a6s, a6t, a6u, a6x, l8⟩ := zc11 z))
         refine bodyPost_ret (results_cell_row rfl _ _ g0 35 #[.int .i64 (wrap64 (1 + X)), .int .i64 L, .int .i64 O, .int .i64 T, .int .i64 U, .int .i64 b0, .int .i64 a0, .int .i64 (wrap64 (1 + c0)), .int .i64 y, .int .i64 A, .int .i64 D] (0, 0) _ rfl (zW z) Try.underlying35 rfl (by kernel_rfl)) rfl ?_
         exact ⟨zE, ww13a, ww13c, ww13b⟩
       rw [if_pos j3] at H
       have d6 := beq_iff_eq.mpr j3
       have e6 := bne_eq_false_iff_eq.mpr j3
       clear j3
       simp only [Option.some.injEq, Prod.mk.injEq] at H
       obtain ⟨rfl, rfl, rfl, rfl, rfl, rfl, rfl, rfl, rfl, rfl, rfl, rfl, rfl⟩ := H
       go_wp2_with (first | ((with_reducible refine gc 76 rfl ?_); refine zF 35 Try.func76 #[.pointer (some ⟨g, 0, none⟩), .int .i64 40] rfl zL ?_; (with_reducible refine (spec_l1Once.calls g E F0 G0 40 true L0 M0 w0 _ ?side1 ?side2 b3.out).mono ?_); (case side1 => exact ww13a); (case side2 => exact ww13c); rintro e w85 ⟨rfl, hi, hb, hk⟩; refine ⟨_, rfl, ?_⟩; have o0 := zK (KeepBut.blk hk (g' := g0) (o := .cells #[.int .i64 0, .int .i64 0, .int .i64 0, .int .i64 0, .int .i64 0, .int .i64 0, .int .i64 0, .int .i64 0, .int .i64 0, .int .i64 0, .int .i64 0] 35 (0, 0)) (zM z) d0.out (by simp)); have p0 := zK (KeepBut.blk hk (g' := u) (o := .cells #[.int .i64 (wrap64 (1 + X)), .int .i64 L, .int .i64 O, .int .i64 T, .int .i64 U, .int .i64 b0, .int .i64 a0, .int .i64 (wrap64 (1 + c0)), .int .i64 y, .int .i64 A, .int .i64 D] 35 (0, 0)) (zM q) e0.out (by simp)); have q0 := zK (KeepBut.trans (ww13b) hk (.inl rfl)); have s0 := zK (hb); have x0 := zK (hi); revert o0 p0 q0 s0 x0; clear z q HK HB HI0; intro z q HK HB HI0) | ((with_reducible refine gc 60 rfl ?_); refine zF 37 Try.func60 #[.pointer (some ⟨g, 0, none⟩), .int .i64 5] rfl zL ?_; (with_reducible refine (spec_l1Below.calls g E L0 M0 5 J0 N0 O0 w0 _ ?side1 ?side2 O3.out).mono ?_); (case side1 => exact ww13a); (case side2 => exact ww13c); rintro e l1 ⟨rfl, hi, hb, hk⟩; refine ⟨_, rfl, ?_⟩; have o0 := zK (KeepBut.blk hk (g' := g0) (o := .cells #[.int .i64 0, .int .i64 0, .int .i64 0, .int .i64 0, .int .i64 0, .int .i64 0, .int .i64 0, .int .i64 0, .int .i64 0, .int .i64 0, .int .i64 0] 35 (0, 0)) (zM z) d0.out (by simp)); have p0 := zK (KeepBut.blk hk (g' := u) (o := .cells #[.int .i64 (wrap64 (1 + X)), .int .i64 L, .int .i64 O, .int .i64 T, .int .i64 U, .int .i64 b0, .int .i64 a0, .int .i64 (wrap64 (1 + c0)), .int .i64 y, .int .i64 A, .int .i64 D] 35 (0, 0)) (zM q) e0.out (by simp)); have q0 := zK (KeepBut.trans (ww13b) hk (.inl rfl)); have s0 := zK (hb); have x0 := zK (hi); revert o0 p0 q0 s0 x0; clear z q HK HB HI0; intro z q HK HB HI0; have b2e := C0.out; have b2f := B0.out; have b2g := e0.out; have b2j := J.out; have a6y : l1.cell? ⟨u, 0, none⟩ = some (.int .i64 (wrap64 (1 + X))) := zy q 0; have a6z : l1.cell? ⟨u, 1, none⟩ = some (.int .i64 L) := zy q 1; have a7a : l1.cell? ⟨u, 2, none⟩ = some (.int .i64 O) := zy q 2; have a7b : l1.cell? ⟨u, 3, none⟩ = some (.int .i64 T) := zy q 3; have a7c : l1.cell? ⟨u, 4, none⟩ = some (.int .i64 U) := zy q 4; have a7d : l1.cell? ⟨u, 5, none⟩ = some (.int .i64 b0) := zy q 5; have a7e : l1.cell? ⟨u, 6, none⟩ = some (.int .i64 a0) := zy q 6; have a7f : l1.cell? ⟨u, 7, none⟩ = some (.int .i64 (wrap64 (1 + c0))) := zy q 7; have a7g : l1.cell? ⟨u, 8, none⟩ = some (.int .i64 y) := zy q 8; have a7j : l1.cell? ⟨u, 9, none⟩ = some (.int .i64 A) := zy q 9; have m8 : l1.cell? ⟨u, 10, none⟩ = some (.int .i64 D) := zy q 10; have a7l := zf q.out 0; have a7m := zf q.out 1; have a7n := zf q.out 2; have a7o := zf q.out 3; have a7p := zf q.out 4; have a7q := zf q.out 5; have a7s := zf q.out 6; have a7t := zf q.out 7; have a7u := zf q.out 8; have a7x := zf q.out 9; have n8 := zf q.out 10; have b2l := d0.out; have b2m := I.out; obtain ⟨a7y, a7z, a8a, a8b, a8c, a8d, a8e, a8f, a8g, a8j, o8, a8l, a8m, a8n, a8o, a8p, a8q, a8s, a8t, a8u, a8x, p8⟩ := zc11 z))
       refine bodyPost_ret (results_cell_row rfl _ _ g0 35 #[.int .i64 (wrap64 (1 + X)), .int .i64 L, .int .i64 O, .int .i64 T, .int .i64 U, .int .i64 b0, .int .i64 a0, .int .i64 (wrap64 (1 + c0)), .int .i64 y, .int .i64 A, .int .i64 (-1)] (0, 0) _ rfl (zW z) Try.underlying35 rfl (by kernel_rfl)) rfl ?_
       exact ⟨zE, ww13a, ww13c, ww13b⟩
end Go.Proofs.Ytodfhokndnmdoaa.PFnFactor
