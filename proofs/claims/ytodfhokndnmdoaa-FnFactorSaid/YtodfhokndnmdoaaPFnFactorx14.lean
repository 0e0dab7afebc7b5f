-- Printed out of the translation by this session's own turned copy of a printer; Lean checks it.
import Derived.Test.YtodfhokndnmdoaaPFnFactorx0
import Derived.Test.YtodfhokndnmdoaaPFnFactorx12
namespace Go.Proofs.Ytodfhokndnmdoaa.PFnFactor
open Go.RowKit Go.Proofs.YtodfhokndnmdoaaW.PrintWords Go.Proofs.YtodfhokndnmdoaaW.PrintLast Go.Proofs.YtodfhokndnmdoaaW.PrintMore
attribute [local go_sem] max2_int min2_int max_two min_two max_three min_three max_four min_four
set_option linter.unusedVariables false
set_option linter.unusedSimpArgs false
set_option maxHeartbeats 100000000
set_option maxRecDepth 100000
theorem ww14a {P : Prop} (h : P := by repeat (first | (with_reducible first | exact HI0.out | apply IsS94.alloc | apply IsS94.drewN | apply IsS94.drew | apply IsS94.set_1 | apply IsS94.set_2 | refine IsS94.far ?_ D.out _ | refine IsS94.far ?_ E.out _) | exact HI0.out)) : P := h
theorem ww14b {P : Prop} (h : P := by repeat (first | (with_reducible first | exact HK.out | apply KeepBut.set_ | apply keep_drewN | apply keep_drew | apply keep_alloc | refine keep_far ?_ X.out _ | refine keep_far ?_ f0.out _) | exact HK.out)) : P := h
theorem ww14c {P : Prop} (h : P := by repeat (first | (with_reducible first | exact HB.out | apply zb | apply zw | apply ze | refine zs ?_ (IsS94.ge HI0.out) | refine zs ?_ p0.out | refine zs ?_ q0.out) | exact HB.out)) : P := h
theorem ww14d {P : Prop} (h : P := by repeat (first | (with_reducible first | exact HI0.out | apply IsS94.alloc | apply IsS94.drewN | apply IsS94.drew | apply IsS94.set_1 | apply IsS94.set_2 | refine IsS94.far ?_ D.out _) | exact HI0.out)) : P := h
theorem ww14e {P : Prop} (h : P := by repeat (first | (with_reducible first | exact HK.out | apply KeepBut.set_ | apply keep_drewN | apply keep_drew | apply keep_alloc | refine keep_far ?_ X.out _) | exact HK.out)) : P := h
theorem ww14f {P : Prop} (h : P := by repeat (first | (with_reducible first | exact HB.out | apply zb | apply zw | apply ze | refine zs ?_ (IsS94.ge HI0.out) | refine zs ?_ p0.out) | exact HB.out)) : P := h
theorem ww14g {P : Prop} (h : P := by repeat (first | (with_reducible first | exact HI0.out | apply IsS94.alloc | apply IsS94.drewN | apply IsS94.drew | apply IsS94.set_1 | apply IsS94.set_2) | exact HI0.out)) : P := h
theorem ww14h {P : Prop} (h : P := by repeat (first | (with_reducible first | exact HK.out | apply KeepBut.set_ | apply keep_drewN | apply keep_drew | apply keep_alloc) | exact HK.out)) : P := h
mutual
def spec_l15DrawOpt.l0 : Nat → Int → List Int → Int → Int → List Int → List Int → List Int → Int → Int → Int → Option (List Int × List Int × List Int × Int × Int × Int × Int × Int)
 | 0, _, _, _, _, _, _, _, _, _, _ => none
 | k + 1, U, u, O, T, q, y, z, D, E, I => if U > 0 then ((spec_l1Below.f u O T 4194304).bind fun J => (if q.length < 17592186044416 then ((spec_l1Below.f u J.2.1 J.2.2 262144).bind fun L => (if y.length < 17592186044416 then ((spec_l1Below.f u L.2.1 L.2.2 262144).bind fun M => (if z.length < 17592186044416 then (spec_l15DrawOpt.l0 k (wrap64 (U - 1)) u M.2.1 M.2.2 (q ++ [wrap64 (J.1 - 2097152)]) (y ++ [wrap64 (L.1 - 131072)]) (z ++ [M.1]) D E I) else (none))) else (none))) else (none))) else ((spec_l1Once.f u O T 8).bind fun A => (if A.1 = true then (spec_l15DrawOpt.j1 k (decide ((q.length : Int) > 0)) u A.2.1 A.2.2 q y z D E I) else (spec_l15DrawOpt.j1 k false u A.2.1 A.2.2 q y z D E I)))
def spec_l15DrawOpt.j1 : Nat → Bool → List Int → Int → Int → List Int → List Int → List Int → Int → Int → Int → Option (List Int × List Int × List Int × Int × Int × Int × Int × Int)
 | 0, _, _, _, _, _, _, _, _, _, _ => none
 | k + 1, a0, I, U, X, y, u, z, D, E, A => if a0 = true then ((spec_l1Below.f I U X 6).bind fun q => (if q.1 = 0 then ((spec_l1PickInt.f I q.2.1 q.2.2 (([68719476736, (-68719476736), 68719476737] : List Int))).bind fun J => (if 0 < (y.length : Int) then (some ((y.set (0 : Int).toNat J.1), u, z, D, E, A, J.2.1, J.2.2)) else (none))) else (if q.1 = 1 then ((spec_l1PickInt.f I q.2.1 q.2.2 (([4294967296, (-4294967296), 4294967297] : List Int))).bind fun L => (if 0 < (u.length : Int) then (some (y, (u.set (0 : Int).toNat L.1), z, D, E, A, L.2.1, L.2.2)) else (none))) else (if q.1 = 2 then ((spec_l1PickInt.f I q.2.1 q.2.2 (([17179869184, 17179869185, (-1)] : List Int))).bind fun M => (if 0 < (z.length : Int) then (some (y, u, (z.set (0 : Int).toNat M.1), D, E, A, M.2.1, M.2.2)) else (none))) else (if q.1 = 3 then ((spec_l1PickInt.f I q.2.1 q.2.2 (([3, 0, 131072] : List Int))).bind fun O => (some (y, u, z, D, O.1, A, O.2.1, O.2.2))) else (if q.1 = 4 then ((spec_l1PickInt.f I q.2.1 q.2.2 (([1000000, 999999, (-1)] : List Int))).bind fun T => (some (y, u, z, T.1, E, A, T.2.1, T.2.2))) else (if q.1 = 5 then (if 1 ≤ (u.length : Int) then (some (y, (u.drop (1 : Int).toNat), z, D, E, A, q.2.1, q.2.2)) else (none)) else (some (y, u, z, D, E, A, q.2.1, q.2.2))))))))) else (some (y, u, z, D, E, A, U, X))
end
def spec_l15DrawOpt.f (k : Nat) (u : List Int) (D : Int) (E : Int) : Option (List Int × List Int × List Int × Int × Int × Int × Int × Int) := (spec_l1Below.f u D E 17).bind fun q => (if 0 ≤ (IntKind.u64.wrap (q.1)) then ((spec_l1Below.f u q.2.1 q.2.2 15).bind fun y => ((spec_l1Below.f u y.2.1 y.2.2 4).bind fun z => ((spec_l1Below.f u z.2.1 z.2.2 6).bind fun A => (spec_l15DrawOpt.l0 k A.1 u A.2.1 A.2.2 ([] : List Int) ([] : List Int) ([] : List Int) y.1 (shl .i64 1 (IntKind.u64.wrap (q.1))) z.1)))) else (none))
def spec_l15DrawOpt.T5 : Bool × List (List Nat × List Nat) := (true, [([], []), ([0], [0]), ([], []), ([2], [2]), ([3], [3]), ([4], [4]), ([1, 5, 3], [1, 5]), ([0, 1, 2, 3, 4, 5, 6], []), ([7, 6, 6, 0, 1, 2, 3, 4, 5, 6], [6, 7])])
def spec_l15DrawOpt.B5 : List Nat := [0, 1, 0, 4, 12, 28, 63, 127, 255]
theorem spec_l15DrawOpt.tab5 : rtab .any (opsOf Try.f58 5) = spec_l15DrawOpt.T5 := by kernel_rfl
theorem spec_l15DrawOpt.bits5 : waitsOk spec_l15DrawOpt.T5.2 spec_l15DrawOpt.B5 = true := by kernel_rfl
def spec_l15DrawOpt.T6 : Bool × List (List Nat × List Nat) := (true, [([], []), ([0], [0]), ([], []), ([2], [2]), ([3], [3]), ([4], [4]), ([1, 5, 3], [1, 5]), ([0, 1, 2, 3, 4, 5, 6], []), ([7, 6, 6, 0, 1, 2, 3, 4, 5, 6], [6, 7])])
def spec_l15DrawOpt.B6 : List Nat := [0, 1, 0, 4, 12, 28, 63, 127, 255]
theorem spec_l15DrawOpt.tab6 : rtab .any (opsOf Try.f58 6) = spec_l15DrawOpt.T6 := by kernel_rfl
theorem spec_l15DrawOpt.bits6 : waitsOk spec_l15DrawOpt.T6.2 spec_l15DrawOpt.B6 = true := by kernel_rfl
def spec_l15DrawOpt.T7 : Bool × List (List Nat × List Nat) := (true, [([], []), ([0], [0]), ([], []), ([2], [2]), ([3], [3]), ([1, 4, 3], [1, 4]), ([0, 1, 2, 3, 4, 5], []), ([6, 5, 5, 0, 1, 2, 3, 4, 5], [5, 6])])
def spec_l15DrawOpt.B7 : List Nat := [0, 1, 0, 4, 12, 31, 63, 127]
theorem spec_l15DrawOpt.tab7 : rtab .any (opsOf Try.f58 7) = spec_l15DrawOpt.T7 := by kernel_rfl
theorem spec_l15DrawOpt.bits7 : waitsOk spec_l15DrawOpt.T7.2 spec_l15DrawOpt.B7 = true := by kernel_rfl
theorem spec_l15DrawOpt.calls (k) (g) (L : List Int) (E2) (F2) (r1 : List Int) (r2 : List Int) (r3 : List Int) (r4) (r5) (r6) (r7) (r8) (w0 w : World) (hI : IsS94 w0 w g L E2 F2) (hB : Below w0.heap.size w0 w) (h : spec_l15DrawOpt.f k L E2 F2 = some (r1, r2, r3, r4, r5, r6, r7, r8)) :
 Calls Try.prog 58 #[.pointer (some ⟨g, 0, none⟩)] w fun e w' => ∃ v0_ v1_ v2_ : Value, e = .returned (.agg #[v0_, v1_, v2_, .int .i64 r4, .int .i64 r5, .int .i64 r6]) ∧ Kd.R (Kd.int .i64) 3 w' w.heap.size (fun k_ => some k_ ≠ (v1_ : Value).ownBlock ∧ some k_ ≠ (v2_ : Value).ownBlock) v0_ r1 ∧ Kd.Q (Kd.int .i64) 3 w' w.heap.size (fun k_ => some k_ ≠ (v0_ : Value).ownBlock ∧ some k_ ≠ (v2_ : Value).ownBlock) v1_ r2 ∧ Kd.R (Kd.int .i64) 3 w' w.heap.size (fun k_ => some k_ ≠ (v0_ : Value).ownBlock ∧ some k_ ≠ (v1_ : Value).ownBlock) v2_ r3 ∧ IsS94 w0 w' g L r7 r8 ∧ Below w0.heap.size w0 w' ∧ KeepBut w w' g none := by
 have b1p := Try.underlying30
 have HI0 := zK hI
 have HK := zK (KeepBut.refl w g none)
 have HL := zK hB.size
 clear hI
 have HW0 := zK hB.size
 have HB := zK hB
 clear hB
 have H : ((spec_l1Below.f L E2 F2 17).bind fun N2 => (if 0 ≤ (IntKind.u64.wrap (N2.1)) then ((spec_l1Below.f L N2.2.1 N2.2.2 15).bind fun U0 => ((spec_l1Below.f L U0.2.1 U0.2.2 4).bind fun O0 => ((spec_l1Below.f L O0.2.1 O0.2.2 6).bind fun I0 => (spec_l15DrawOpt.l0 k I0.1 L I0.2.1 I0.2.2 ([] : List Int) ([] : List Int) ([] : List Int) U0.1 (shl .i64 1 (IntKind.u64.wrap (N2.1))) O0.1)))) else (none))) = some (r1, r2, r3, r4, r5, r6, r7, r8) := h
 clear h
 replace H := z6 H
 obtain ⟨⟨x3, R2, T2⟩, l8, H⟩ := H
 replace H : (if 0 ≤ (IntKind.u64.wrap (x3)) then ((spec_l1Below.f L R2 T2 15).bind fun U0 => ((spec_l1Below.f L U0.2.1 U0.2.2 4).bind fun O0 => ((spec_l1Below.f L O0.2.1 O0.2.2 6).bind fun I0 => (spec_l15DrawOpt.l0 k I0.1 L I0.2.1 I0.2.2 ([] : List Int) ([] : List Int) ([] : List Int) U0.1 (shl .i64 1 (IntKind.u64.wrap (x3))) O0.1)))) else (none)) = some (r1, r2, r3, r4, r5, r6, r7, r8) := H
 have A2 := zK l8
 clear l8
 obtain ⟨ji3, hji3⟩ : ∃ j_ : Int, (IntKind.u64.wrap (x3)) = j_ := ⟨_, rfl⟩
 replace H : (if 0 ≤ (ji3) then ((spec_l1Below.f L R2 T2 15).bind fun U0 => ((spec_l1Below.f L U0.2.1 U0.2.2 4).bind fun O0 => ((spec_l1Below.f L O0.2.1 O0.2.2 6).bind fun I0 => (spec_l15DrawOpt.l0 k I0.1 L I0.2.1 I0.2.2 ([] : List Int) ([] : List Int) ([] : List Int) U0.1 (shl .i64 1 (ji3)) O0.1)))) else (none)) = some (r1, r2, r3, r4, r5, r6, r7, r8) := by first | (rw [hji3] at H; exact H) | (simp only [hji3] at H ⊢; exact H)
 (try rw [hji3] at A2)
 by_cases c4 : 0 ≤ (ji3)
 rotate_left
 · rw [if_neg c4] at H
   exact absurd H (by simp)
 rw [if_pos c4] at H
 have s8 := eq_true c4
 have t8 := z1 c4
 clear c4
 obtain ⟨ji5, hji5⟩ : ∃ j_ : Int, (shl .i64 1 (ji3)) = j_ := ⟨_, rfl⟩
 replace H : ((spec_l1Below.f L R2 T2 15).bind fun U0 => ((spec_l1Below.f L U0.2.1 U0.2.2 4).bind fun O0 => ((spec_l1Below.f L O0.2.1 O0.2.2 6).bind fun I0 => (spec_l15DrawOpt.l0 k I0.1 L I0.2.1 I0.2.2 ([] : List Int) ([] : List Int) ([] : List Int) U0.1 ji5 O0.1)))) = some (r1, r2, r3, r4, r5, r6, r7, r8) := by first | (rw [hji5] at H; exact H) | (simp only [hji5] at H ⊢; exact H)
 (try rw [hji5] at A2)
 have hji5_ : (IntKind.i64.wrap (1 * 2 ^ min (ji3).toNat 64)) = ji5 := hji5
 have hji5z : (ji3) ≤ 64 → (IntKind.i64.wrap (1 * 2 ^ (ji3).toNat)) = ji5 := shl_small hji5
 have hji5u : (IntKind.i64.wrap (2 ^ min (ji3).toNat 64)) = ji5 := by have h_ := hji5_; rw [Int.one_mul] at h_; exact h_
 have hji5v : (ji3) ≤ 64 → (IntKind.i64.wrap (2 ^ (ji3).toNat)) = ji5 := fun hle_ => by have h_ := hji5z hle_; rw [Int.one_mul] at h_; exact h_
 have hji5y : (wrap64 (1 * 2 ^ min (ji3).toNat 64)) = ji5 := (i64_w _).symm.trans hji5_
 have hji5x : (ji3) ≤ 64 → (wrap64 (1 * 2 ^ (ji3).toNat)) = ji5 := fun h_ => (i64_w _).symm.trans (hji5z h_)
 replace H := z6 H
 obtain ⟨⟨a0, X3, a4⟩, m8, H⟩ := H
 replace H : ((spec_l1Below.f L X3 a4 4).bind fun O0 => ((spec_l1Below.f L O0.2.1 O0.2.2 6).bind fun I0 => (spec_l15DrawOpt.l0 k I0.1 L I0.2.1 I0.2.2 ([] : List Int) ([] : List Int) ([] : List Int) a0 ji5 O0.1))) = some (r1, r2, r3, r4, r5, r6, r7, r8) := H
 have A6 := zK m8
 clear m8
 replace H := z6 H
 obtain ⟨⟨U, U2, V2⟩, n8, H⟩ := H
 replace H : ((spec_l1Below.f L U2 V2 6).bind fun I0 => (spec_l15DrawOpt.l0 k I0.1 L I0.2.1 I0.2.2 ([] : List Int) ([] : List Int) ([] : List Int) a0 ji5 U)) = some (r1, r2, r3, r4, r5, r6, r7, r8) := H
 have A7 := zK n8
 clear n8
 replace H := z6 H
 obtain ⟨⟨b4, d4, e4⟩, o8, H⟩ := H
 replace H : (spec_l15DrawOpt.l0 k b4 L d4 e4 ([] : List Int) ([] : List Int) ([] : List Int) a0 ji5 U) = some (r1, r2, r3, r4, r5, r6, r7, r8) := H
 have A8 := zK o8
 clear o8
 have H' := zK H
 clear H
 go_enter Try.func58, Try.ntmps58
 go_wp2_with (first | ((with_reducible refine gd 2 rfl ?_); (try (refine gate_guard (by rfl) ?_; dsimp only)); refine zJ 2 #[.slice none 0 0, .slice none 0 0, .slice none 0 0, .int .i64 0, .int .i64 0, .int .i64 0] 30 ?_; intro t0 hg w9 hbox hb; have b0 := zK (IsS94.below (ww14g) hb); have c0 := zK (KeepBut.trans (ww14h) (KeepBut.of_below hb g none) (.inl rfl)); have d0 := zK (zp (by repeat (first | (with_reducible first | exact HB.out | apply zb | apply zw | apply ze | refine zs ?_ (IsS94.ge HI0.out)) | exact HB.out)) hb); have e0 := zK (hbox); have j0 := zK ((by rw [hg]; exact (keep_size (w := w) (g := g) (row := none) (ww14h)) : w.heap.size ≤ t0)); have m0 := zK ((Nat.le_trans HW0.out (by rw [hg]; exact (keep_size (w := w) (g := g) (row := none) (ww14h)) : w.heap.size ≤ t0) : w0.heap.size ≤ t0)); have n0 := zK ((by rw [hg]; exact Nat.ne_of_lt (IsS94.lt (show IsS94 w0 _ g L E2 F2 from ww14g)) : g ≠ t0)); have o0 := zK ((by rw [hg]; exact Nat.ne_of_gt (IsS94.lt (show IsS94 w0 _ g L E2 F2 from ww14g)) : t0 ≠ g)); revert b0 c0 d0 e0 j0 m0 n0 o0; clear HI0 HK HB; intro HI0 HK HB A X p0 D x0; clear hb hbox hg) | ((with_reducible refine gc 60 rfl ?_); refine zF 6 Try.func60 #[.pointer (some ⟨g, 0, none⟩), .int .i64 17] rfl zL ?_; (with_reducible refine (spec_l1Below.calls g L E2 F2 17 x3 R2 T2 w0 _ ?side1 ?side2 A2.out).mono ?_); (case side1 => exact ww14d); (case side2 => exact ww14f); rintro e w10 ⟨rfl, hi, hb, hk⟩; refine ⟨_, rfl, ?_⟩; have b0 := zK (KeepBut.blk hk (g' := t0) (o := .cells #[.slice none 0 0, .slice none 0 0, .slice none 0 0, .int .i64 0, .int .i64 0, .int .i64 0] 30 (0, 0)) (zM A) x0.out (by simp)); have c0 := zK (KeepBut.trans (ww14e) hk (.inl rfl)); have d0 := zK (hb); have e0 := zK (hi); revert b0 c0 d0 e0; clear A HK HB HI0; intro A HK HB HI0) | ((with_reducible refine gc 60 rfl ?_); refine zF 10 Try.func60 #[.pointer (some ⟨g, 0, none⟩), .int .i64 15] rfl zL ?_; (with_reducible refine (spec_l1Below.calls g L R2 T2 15 a0 X3 a4 w0 _ ?side1 ?side2 A6.out).mono ?_); (case side1 => exact ww14d); (case side2 => exact ww14f); rintro e w11 ⟨rfl, hi, hb, hk⟩; refine ⟨_, rfl, ?_⟩; have b0 := zK (KeepBut.blk hk (g' := t0) (o := .cells #[.slice none 0 0, .slice none 0 0, .slice none 0 0, .int .i64 0, .int .i64 0, .int .i64 0] 30 (0, 0)) (zM A) x0.out (by simp)); have c0 := zK (KeepBut.trans (ww14e) hk (.inl rfl)); have d0 := zK (hb); have e0 := zK (hi); revert b0 c0 d0 e0; clear A HK HB HI0; intro A HK HB HI0) | ((with_reducible refine gc 60 rfl ?_); refine zF 12 Try.func60 #[.pointer (some ⟨g, 0, none⟩), .int .i64 4] rfl zL ?_; (with_reducible refine (spec_l1Below.calls g L X3 a4 4 U U2 V2 w0 _ ?side1 ?side2 A7.out).mono ?_); (case side1 => exact ww14d); (case side2 => exact ww14f); rintro e w12 ⟨rfl, hi, hb, hk⟩; refine ⟨_, rfl, ?_⟩; have b0 := zK (KeepBut.blk hk (g' := t0) (o := .cells #[.slice none 0 0, .slice none 0 0, .slice none 0 0, .int .i64 0, .int .i64 0, .int .i64 0] 30 (0, 0)) (zM A) x0.out (by simp)); have c0 := zK (KeepBut.trans (ww14e) hk (.inl rfl)); have d0 := zK (hb); have e0 := zK (hi); revert b0 c0 d0 e0; clear A HK HB HI0; intro A HK HB HI0) | ((with_reducible refine gd 3 rfl ?_); (try (refine gate_guard (by rfl) ?_; dsimp only)); refine zJ 3 #[.slice none 0 0, .slice none 0 0, .slice none 0 0, .int .i64 0, .int .i64 0, .int .i64 0] 30 ?_; intro T hg w13 hbox hb; have b0 := zK (IsS94.below (ww14d) hb); have c0 := z7 A hb; have d0 := zK (KeepBut.trans (ww14e) (KeepBut.of_below hb g none) (.inl rfl)); have e0 := zK (zp (ww14f) hb); have j0 := zK (hbox); have m0 := zK ((by rw [hg]; exact (keep_size (w := w) (g := g) (row := none) (ww14e)) : w.heap.size ≤ T)); have n0 := zK ((Nat.le_trans HW0.out (by rw [hg]; exact (keep_size (w := w) (g := g) (row := none) (ww14e)) : w.heap.size ≤ T) : w0.heap.size ≤ T)); have o0 := zHH hg A; have S0 := zGG hg A; have n9_ := zK ((by rw [hg]; exact Nat.ne_of_lt (IsS94.lt (show IsS94 w0 _ g L U2 V2 from ww14d)) : g ≠ T)); have x8 := zK ((by rw [hg]; exact Nat.ne_of_gt (IsS94.lt (show IsS94 w0 _ g L U2 V2 from ww14d)) : T ≠ g)); revert b0 c0 d0 e0 j0 m0 n0 o0 S0 n9_ x8; clear HI0 A HK HB; intro HI0 A HK HB q f0 q0 F0 G0 E y0; clear hb hbox hg; have b0f := G0.out; have b0g := F0.out; have b0j := y0.out; have b0l := E.out; obtain ⟨D4, E4, F4, G4, I4, J4, L4, M4, N4, O4, R4, S4⟩ := zc6 q) | ((with_reducible refine gc 60 rfl ?_); refine zF 15 Try.func60 #[.pointer (some ⟨g, 0, none⟩), .int .i64 6] rfl zL ?_; (with_reducible refine (spec_l1Below.calls g L U2 V2 6 b4 d4 e4 w0 _ ?side1 ?side2 A8.out).mono ?_); (case side1 => exact ww14a); (case side2 => exact ww14c); rintro e w17 ⟨rfl, hi, hb, hk⟩; refine ⟨_, rfl, ?_⟩; have b0 := zK (KeepBut.blk hk (g' := t0) (o := .cells #[.slice none 0 0, .slice none 0 0, .slice none 0 0, .int .i64 0, .int .i64 0, .int .i64 0] 30 (0, 0)) (zV A) x0.out (by simp)); have c0 := zK (KeepBut.blk hk (g' := T) (o := .cells #[.slice none 0 0, .slice none 0 0, .slice none 0 0, .int .i64 a0, .int .i64 ji5, .int .i64 U] 30 (0, 0)) (zW q) y0.out (by simp)); have d0 := zK (KeepBut.trans (ww14b) hk (.inl rfl)); have e0 := zK (hb); have j0 := zK (hi); revert b0 c0 d0 e0 j0; clear A q HK HB HI0; intro A q HK HB HI0))
 go_loopg [4] k (fun kq v4 w' => ∃ (m1 : Int) (J0 : Int) (L0 : Int) (O : List Int) (I : List Int) (J : List Int) (u450000 : Value) (u450001 : Value) (u450002 : Value), v4 = .int .i64 m1 ∧ Aside0 (spec_l15DrawOpt.l0 kq m1 L J0 L0 O I J a0 ji5 U = some (r1, r2, r3, r4, r5, r6, r7, r8)) ∧ Aside0 (kq ≤ k) ∧ Aside0 (Kd.R (Kd.int .i64) 3 w' w.heap.size (fun k_ => some k_ ≠ (u450001 : Value).ownBlock ∧ some k_ ≠ (u450002 : Value).ownBlock) u450000 O) ∧ Aside0 (Kd.Q (Kd.int .i64) 3 w' w.heap.size (fun k_ => some k_ ≠ (u450000 : Value).ownBlock ∧ some k_ ≠ (u450002 : Value).ownBlock) u450001 I) ∧ Aside0 (Kd.R (Kd.int .i64) 3 w' w.heap.size (fun k_ => some k_ ≠ (u450000 : Value).ownBlock ∧ some k_ ≠ (u450001 : Value).ownBlock) u450002 J) ∧ Aside0 (w'.heap[t0]? = some (.cells #[(.slice none 0 0), (.slice none 0 0), (.slice none 0 0), .int .i64 0, .int .i64 0, .int .i64 0] 30 (0, 0))) ∧ Aside0 (w'.heap[T]? = some (.cells #[u450000, u450001, u450002, .int .i64 a0, .int .i64 ji5, .int .i64 U] 30 (0, 0))) ∧ Aside0 (IsS94 w0 w' g L J0 L0) ∧ Aside0 (KeepBut w w' g none) ∧ Aside0 (Below w0.heap.size w0 w'))
 case atStart => exact ⟨(b4), (d4), (e4), (([] : List Int)), (([] : List Int)), (([] : List Int)), (.slice none 0 0), (.slice none 0 0), (.slice none 0 0), zR, H', ⟨Nat.le_refl _⟩, ⟨by first | exact Kd.R_nil _ _ _ _ _ | exact Kd.N_nil _ _ _ _ _ | exact Kd.V_nil _ _ _ _ _ | exact Kd.Q_nil _ _ _ _ _ | exact Kd.S_nil _ _ _ _ _⟩, ⟨Kd.Q_of_R (by first | exact Kd.R_nil _ _ _ _ _ | exact Kd.N_nil _ _ _ _ _ | exact Kd.V_nil _ _ _ _ _ | exact Kd.Q_nil _ _ _ _ _ | exact Kd.S_nil _ _ _ _ _)⟩, ⟨by first | exact Kd.R_nil _ _ _ _ _ | exact Kd.N_nil _ _ _ _ _ | exact Kd.V_nil _ _ _ _ _ | exact Kd.Q_nil _ _ _ _ _ | exact Kd.S_nil _ _ _ _ _⟩, ⟨zM A⟩, ⟨zM q⟩, ⟨ww14a⟩, ⟨ww14b⟩, ⟨ww14c⟩⟩
 clear H'
 try clear c1
 try clear p2
 try clear c4
 try clear s8
 try clear t8
 try clear c5
 try clear c6
 try clear p6
 try clear c14
 try clear c15
 try clear D4 E4 F4 G4 I4 J4 L4 M4 N4 O4 R4 S4
 obtain ⟨m1, J0, L0, O, I, J, u450000, u450001, u450002, rfl, HA, o4, z, y, u, A, q, HI0, HK, HB⟩ := hrel
 rcases gk with _ | k1
 · exact absurd HA.out (by simp [spec_l15DrawOpt.l0])
 have H := HA.out
 clear HA
 simp only [spec_l15DrawOpt.l0] at H
 by_cases X2 : m1 > 0
 · as_aux_lemma =>
   rw [if_pos X2] at H
   have p4 := z1 X2
   clear X2
   replace H := z6 H
   obtain ⟨⟨a3, F1, G1⟩, l5, H⟩ := H
   replace H : (if O.length < 17592186044416 then ((spec_l1Below.f L F1 G1 262144).bind fun q1 => (if I.length < 17592186044416 then ((spec_l1Below.f L q1.2.1 q1.2.2 262144).bind fun V0 => (if J.length < 17592186044416 then (spec_l15DrawOpt.l0 k1 (wrap64 (m1 - 1)) L V0.2.1 V0.2.2 (O ++ [wrap64 (a3 - 2097152)]) (I ++ [wrap64 (q1.1 - 131072)]) (J ++ [V0.1]) a0 ji5 U) else (none))) else (none))) else (none)) = some (r1, r2, r3, r4, r5, r6, r7, r8) := H
   have A19 := zK l5
   clear l5
   by_cases L3 : O.length < 17592186044416
   rotate_left
   · rw [if_neg L3] at H
     exact absurd H (by simp)
   rw [if_pos L3] at H
   have LMc20 := zK L3
   clear L3
   obtain ⟨E0, f2⟩ : ∃ y_ : List Int, y_ = (O ++ [wrap64 (a3 - 2097152)]) := ⟨_, rfl⟩
   replace H : ((spec_l1Below.f L F1 G1 262144).bind fun q1 => (if I.length < 17592186044416 then ((spec_l1Below.f L q1.2.1 q1.2.2 262144).bind fun V0 => (if J.length < 17592186044416 then (spec_l15DrawOpt.l0 k1 (wrap64 (m1 - 1)) L V0.2.1 V0.2.2 E0 (I ++ [wrap64 (q1.1 - 131072)]) (J ++ [V0.1]) a0 ji5 U) else (none))) else (none))) = some (r1, r2, r3, r4, r5, r6, r7, r8) := by first | (rw [f2]; with_reducible exact H) | (have D0 := (Option.bind_some _ _).symm.trans H; rw [f2]; with_reducible exact D0) | (have D0 := (Option.bind_some _ _).symm.trans H; with_reducible exact D0) | with_reducible exact H | (rw [f2]; exact H) | exact H
   have Ny456 := zK f2
   clear f2
   replace H := z6 H
   obtain ⟨⟨b3, I1, J1⟩, m5, H⟩ := H
   replace H : (if I.length < 17592186044416 then ((spec_l1Below.f L I1 J1 262144).bind fun V0 => (if J.length < 17592186044416 then (spec_l15DrawOpt.l0 k1 (wrap64 (m1 - 1)) L V0.2.1 V0.2.2 E0 (I ++ [wrap64 (b3 - 131072)]) (J ++ [V0.1]) a0 ji5 U) else (none))) else (none)) = some (r1, r2, r3, r4, r5, r6, r7, r8) := H
   have A21 := zK m5
   clear m5
   by_cases M3 : I.length < 17592186044416
   rotate_left
   · rw [if_neg M3] at H
     exact absurd H (by simp)
   rw [if_pos M3] at H
   have LMc22 := zK M3
   clear M3
   obtain ⟨R0, g2⟩ : ∃ y_ : List Int, y_ = (I ++ [wrap64 (b3 - 131072)]) := ⟨_, rfl⟩
   replace H : ((spec_l1Below.f L I1 J1 262144).bind fun V0 => (if J.length < 17592186044416 then (spec_l15DrawOpt.l0 k1 (wrap64 (m1 - 1)) L V0.2.1 V0.2.2 E0 R0 (J ++ [V0.1]) a0 ji5 U) else (none))) = some (r1, r2, r3, r4, r5, r6, r7, r8) := by first | (rw [g2]; with_reducible exact H) | (have D0 := (Option.bind_some _ _).symm.trans H; rw [g2]; with_reducible exact D0) | (have D0 := (Option.bind_some _ _).symm.trans H; with_reducible exact D0) | with_reducible exact H | (rw [g2]; exact H) | exact H
   have Ny462 := zK g2
   clear g2
   replace H := z6 H
   obtain ⟨⟨c3, y3, A3⟩, n5, H⟩ := H
   replace H : (if J.length < 17592186044416 then (spec_l15DrawOpt.l0 k1 (wrap64 (m1 - 1)) L y3 A3 E0 R0 (J ++ [c3]) a0 ji5 U) else (none)) = some (r1, r2, r3, r4, r5, r6, r7, r8) := H
   have A23 := zK n5
   clear n5
   by_cases N3 : J.length < 17592186044416
   rotate_left
   · rw [if_neg N3] at H
     exact absurd H (by simp)
   rw [if_pos N3] at H
   have LMc24 := zK N3
   clear N3
   obtain ⟨f4, i2⟩ : ∃ y_ : List Int, y_ = (J ++ [c3]) := ⟨_, rfl⟩
   replace H : (spec_l15DrawOpt.l0 k1 (wrap64 (m1 - 1)) L y3 A3 E0 R0 f4 a0 ji5 U) = some (r1, r2, r3, r4, r5, r6, r7, r8) := by first | (rw [i2]; with_reducible exact H) | (have D0 := (Option.bind_some _ _).symm.trans H; rw [i2]; with_reducible exact D0) | (have D0 := (Option.bind_some _ _).symm.trans H; with_reducible exact D0) | with_reducible exact H | (rw [i2]; exact H) | exact H
   have Ny468 := zK i2
   clear i2
   have H' := zK H
   clear H
   try go_wp2
   have b0 := zK (Kd.R_drew z.out)
   have c0 := zK (Kd.Q_drew y.out)
   have d0 := zK (Kd.R_drew u.out)
   have e0 := zK (zd A.out)
   have j0 := zK (zd q.out)
   have m0 := zK (IsS94.drew HI0.out)
   have n0 := zK (keep_drew HK.out)
   have o0 := zK (ze HB.out)
   revert b0 c0 d0 e0 j0 m0 n0 o0
   clear z y u A q HI0 HK HB
   intro z y u A q HI0 HK HB
   refine start_ (n := 9) (S := fun w' => w'.cell? ⟨T, 0, none⟩ = some (u450000) ∧ w'.cell? ⟨T, 1, none⟩ = some (u450001) ∧ w'.cell? ⟨T, 2, none⟩ = some (u450002) ∧ w'.cell? ⟨T, 3, none⟩ = some (.int .i64 a0) ∧ w'.cell? ⟨T, 4, none⟩ = some (.int .i64 ji5) ∧ w'.cell? ⟨T, 5, none⟩ = some (.int .i64 U)) (ds := [8]) (bl 9 0) (by kernel_rfl) rfl (by kernel_rfl) ⟨zy q 0, zy q 1, zy q 2, zy q 3, zy q 4, zy q 5⟩ (fun hHeld => ?_); refine with_tabW spec_l15DrawOpt.tab5 spec_l15DrawOpt.bits5 (fun HT_ HW_ => ?_)
   generalize wr.drew = w25 at z y u A q HI0 HK HB hHeld ⊢
   refine zP 0 20 (bl 9 1) HT_ ?_
   refine zP 2 22 (bl 9 5) HT_ ?_
   refine zT 1 21 (bl 9 7) rfl rfl HT_ HW_ hHeld (by rintro w' ⟨s0, s1, s2, s3, s4, s5⟩; go_simp; with_reducible rfl) ?_
   refine one_ (i := 3) (N := some 23) (bl 9 15) rfl rfl (one_of HT_.out (by kernel_rfl)) (by decide) (fun K hK => ?_)
   refine goes_ Try.func60 (by kernel_rfl) rfl #[.pointer (some ⟨g, 0, none⟩), .int .i64 4194304] (by rfl) rfl rfl zL ?_
   with_reducible refine (spec_l1Below.calls g L J0 L0 4194304 a3 F1 G1 w0 _ ?side1 ?side2 A19.out).mono ?_
   (case side1 => exact ww14a)
   (case side2 => exact ww14c)
   rintro e w26 ⟨rfl, hi, hb, hk⟩
   refine ⟨_, rfl, ?_⟩
   have b0 := zK (Kd.R_mono (Kd.R_keep (IsS94.apart (show IsS94 w0 _ g L J0 L0 from ww14a) (zkR z) (by decide)) hk (fun _ h => h.2)) (fun _ h => h.1))
   have c0 := zK (Kd.Q_mono (Kd.Q_keep (IsS94.apartQ (show IsS94 w0 _ g L J0 L0 from ww14a) (zkQ y) (by decide)) hk (fun _ h => h.2)) (fun _ h => h.1))
   have d0 := zK (Kd.R_mono (Kd.R_keep (IsS94.apart (show IsS94 w0 _ g L J0 L0 from ww14a) (zkR u) (by decide)) hk (fun _ h => h.2)) (fun _ h => h.1))
   have e0 := zK (KeepBut.blk hk (g' := t0) (o := .cells #[.slice none 0 0, .slice none 0 0, .slice none 0 0, .int .i64 0, .int .i64 0, .int .i64 0] 30 (0, 0)) (zM A) x0.out (by simp))
   have j0 := zK (KeepBut.blk hk (g' := T) (o := .cells #[u450000, u450001, u450002, .int .i64 a0, .int .i64 ji5, .int .i64 U] 30 (0, 0)) (zM q) y0.out (by simp))
   have m0 := zK (KeepBut.trans (ww14b) hk (.inl rfl))
   have n0 := zK (hb)
   have o0 := zK (hi)
   revert b0 c0 d0 e0 j0 m0 n0 o0
   clear z y u A q HK HB HI0
   intro z y u A q HK HB HI0
   (try clear hb)
   (try clear hb2)
   (try clear hk)
   (try clear hi)
   refine hK.out _ _ ⟨zy q 0, zy q 1, zy q 2, zy q 3, zy q 4, zy q 5⟩ (fun hHeld => ?_)
   clear hK K
   refine zU 23 ?_
   refine zP 4 24 (bl 9 31) HT_ ?_
   refine one_ (i := 5) (N := some 25) (bl 9 63) rfl rfl (one_of HT_.out (by kernel_rfl)) (by decide) (fun K hK => ?_)
   refine value_ (w1 := ?_) (v := ?_) (by rfl) rfl ?_ ?_
   rotate_left 2
   · go_simp
     constructor
     · rfl
     · rfl
   refine hK.out _ _ ⟨(zc (za q.out _) 0).trans rfl, (zc (za q.out _) 1).trans rfl, (zc (za q.out _) 2).trans rfl, (zc (za q.out _) 3).trans rfl, (zc (za q.out _) 4).trans rfl, (zc (za q.out _) 5).trans rfl⟩ (fun hHeld => ?_)
   clear hK K
   refine zU 25 ?_
   refine one_ (i := 6) (N := some 26) (bl 9 127) rfl rfl (one_of HT_.out (by kernel_rfl)) (by decide) (fun K hK => ?_)
   refine Kd.R_append_step (Kd.int .i64) w.heap.size (by rfl) (.tmp 21) (.tmp 25) 26 3 (.int .i64 0) 8 rfl Try.underlying26 info3 rfl (by decide) (by omega) u450000 O (wrap64 (a3 - 2097152)) [.int .i64 (wrap64 (a3 - 2097152))] (fun k_ => some k_ ≠ (u450001 : Value).ownBlock ∧ some k_ ≠ (u450002 : Value).ownBlock) (fun _ => False) rfl rfl ?aP (fun _ hk => hk.elim) ?aF ?aO (Below.refl _ _) ?aS ?aL ?_
   (case aP => exact rfl)
   (case aF => exact (fun k_ hk => ⟨Kd.fresh' (Kd.Q_lt (zkQ y)) k_ hk, Kd.fresh' (Kd.R_lt (zkR u)) k_ hk⟩))
   (case aO => exact (zkR z))
   (case aS => exact (keep_size (w := w) (g := g) (row := none) (ww14b)))
   (case aL => have := LMc20.out; omega)
   intro v457 U1 ho hb hg hat
   rw [← Ny456.out] at ho
   have b0 := zK (Kd.Q_after (ok := (fun k_ => some k_ ≠ (u450002 : Value).ownBlock)) (Kd.Q_mono (zlQ y.out) (fun _ hk => ⟨hk.2, hk.1⟩)) hg hat)
   have c0 := zK (Kd.R_after (ok := (fun k_ => some k_ ≠ (u450001 : Value).ownBlock)) (Kd.R_mono (zlR u.out) (fun _ hk => ⟨hk.2, hk.1⟩)) hg hat)
   have d0 := zK (blk_grown (zM A) hg (Kd.R_ne z.out A.out (by decide)))
   have e0 := zK (blk_grown (zM q) hg (Kd.R_ne z.out q.out (by decide)))
   have j0 := zK (IsS94.grown (ww14a) hg (IsS94.own_ne HI0.out z.out (by decide)))
   have m0 := zK (below_weaken (ww14c) HL.out hb)
   have n0 := zK (KeepBut.trans (ww14b) (KeepBut.of_grown hg g) (Kd.R_base2 z.out))
   have o0 := zK (ho)
   revert b0 c0 d0 e0 j0 m0 n0 o0
   clear y u A q HI0 HB HK z
   intro y u A q HI0 HB HK C0
   clear ho hb hg hat
   obtain ⟨M0, N0, A5⟩ := Kd.R_slice C0.out
   (first | subst A5 | (injection A5 with f1_ f2_ f3_; have f4_ := f1_.symm; have f5_ := f3_.symm; clear f1_ f2_ f3_; subst f4_; subst f5_))
   refine hK.out _ _ ⟨zy q 0, zy q 1, zy q 2, zy q 3, zy q 4, zy q 5⟩ (fun hHeld => ?_)
   clear hK K
   refine zU 26 ?_
   refine zP 7 27 (bl 9 255) HT_ ?_
   refine last_ (i := 8) (N := none) (bl 9 511) rfl rfl (one_of HT_.out (by kernel_rfl)) (by decide) (fun K hK => ?_)
   have b1z : U1.cell? ⟨T, 0, none⟩ = some (u450000) := zy q 0
   have hfs29 := zf q.out 0
   have hns29_0 := F0.out
   have hms29_0 := G0.out
   refine skip_ (w1 := ?_) (by rfl) rfl ?_ ?_
   rotate_left
   · go_simp
     rfl
   refine hK.out _ _ ?_
   clear hK K
   refine done_ (done_of HT_.out (by kernel_rfl)) ?_
   try go_wp2
   have b0 : Aside0 (Kd.Q (Kd.int .i64) 3 (U1.setCell ⟨T, 0, none⟩ (.slice M0 E0.length N0)) w.heap.size (fun k_ => some k_ ≠ (u450002 : Value).ownBlock ∧ some k_ ≠ (.slice M0 E0.length N0 : Value).ownBlock) u450001 I) := ⟨Kd.Q_mono (zlQ (Kd.Q_types y.out q.out (by decide))) (fun _ hk => ⟨hk.1.1, hk.1.2⟩)⟩
   have c0 : Aside0 (Kd.R (Kd.int .i64) 3 (U1.setCell ⟨T, 0, none⟩ (.slice M0 E0.length N0)) w.heap.size (fun k_ => some k_ ≠ (u450001 : Value).ownBlock ∧ some k_ ≠ (.slice M0 E0.length N0 : Value).ownBlock) u450002 J) := ⟨Kd.R_mono (zlR (Kd.R_types u.out q.out (by decide))) (fun _ hk => ⟨hk.1.1, hk.1.2⟩)⟩
   have d0 : Aside0 (Kd.R (Kd.int .i64) 3 (U1.setCell ⟨T, 0, none⟩ (.slice M0 E0.length N0)) w.heap.size (fun k_ => some k_ ≠ (u450001 : Value).ownBlock ∧ some k_ ≠ (u450002 : Value).ownBlock) (.slice M0 E0.length N0) E0) := ⟨Kd.R_mono (zlR (Kd.R_types C0.out q.out (by decide))) (fun _ hk => ⟨hk.1.1, hk.1.2⟩)⟩
   have e0 : Aside0 ((U1.setCell ⟨T, 0, none⟩ (.slice M0 E0.length N0)).heap[t0]? = some (.cells #[.slice none 0 0, .slice none 0 0, .slice none 0 0, .int .i64 0, .int .i64 0, .int .i64 0] 30 (0, 0))) := ⟨zV A⟩
   have j0 : Aside0 ((U1.setCell ⟨T, 0, none⟩ (.slice M0 E0.length N0)).heap[T]? = some (.cells #[.slice M0 E0.length N0, u450001, u450002, .int .i64 a0, .int .i64 ji5, .int .i64 U] 30 (0, 0))) := ⟨zW q⟩
   have m0 : Aside0 (IsS94 w0 (U1.setCell ⟨T, 0, none⟩ (.slice M0 E0.length N0)) g L F1 G1) := ⟨ww14a⟩
   have n0 : Aside0 (KeepBut w (U1.setCell ⟨T, 0, none⟩ (.slice M0 E0.length N0)) g none) := ⟨ww14b⟩
   have o0 : Aside0 (Below w0.heap.size w0 (U1.setCell ⟨T, 0, none⟩ (.slice M0 E0.length N0))) := ⟨ww14c⟩
   (try clear y)
   (try clear u)
   (try clear C0)
   (try clear A)
   (try clear q)
   (try clear HI0)
   (try clear HK)
   (try clear HB)
   generalize (U1.setCell ⟨T, 0, none⟩ (.slice M0 E0.length N0)) = w30 at b0 c0 d0 e0 j0 m0 n0 o0 ⊢
   revert b0 c0 d0 e0 j0 m0 n0 o0
   intro y u C0 A q HI0 HK HB
   have b0 := zK (Kd.Q_drew y.out)
   have c0 := zK (Kd.R_drew u.out)
   have d0 := zK (Kd.R_drew C0.out)
   have e0 := zK (zd A.out)
   have j0 := zK (zd q.out)
   have m0 := zK (IsS94.drew HI0.out)
   have n0 := zK (keep_drew HK.out)
   have o0 := zK (ze HB.out)
   revert b0 c0 d0 e0 j0 m0 n0 o0
   clear y u C0 A q HI0 HK HB
   intro y u C0 A q HI0 HK HB
   refine start_ (n := 9) (S := fun w' => w'.cell? ⟨T, 0, none⟩ = some (.slice M0 E0.length N0) ∧ w'.cell? ⟨T, 1, none⟩ = some (u450001) ∧ w'.cell? ⟨T, 2, none⟩ = some (u450002) ∧ w'.cell? ⟨T, 3, none⟩ = some (.int .i64 a0) ∧ w'.cell? ⟨T, 4, none⟩ = some (.int .i64 ji5) ∧ w'.cell? ⟨T, 5, none⟩ = some (.int .i64 U)) (ds := [8]) (bl 9 0) (by kernel_rfl) rfl (by kernel_rfl) ⟨zy q 0, zy q 1, zy q 2, zy q 3, zy q 4, zy q 5⟩ (fun hHeld => ?_); refine with_tabW spec_l15DrawOpt.tab6 spec_l15DrawOpt.bits6 (fun HT_ HW_ => ?_)
   generalize w30.drew = w31 at y u C0 A q HI0 HK HB hHeld ⊢
   refine zP 0 28 (bl 9 1) HT_ ?_
   refine zP 2 30 (bl 9 5) HT_ ?_
   refine zT 1 29 (bl 9 7) rfl rfl HT_ HW_ hHeld (by rintro w' ⟨s0, s1, s2, s3, s4, s5⟩; go_simp; with_reducible rfl) ?_
   refine one_ (i := 3) (N := some 31) (bl 9 15) rfl rfl (one_of HT_.out (by kernel_rfl)) (by decide) (fun K hK => ?_)
   refine goes_ Try.func60 (by kernel_rfl) rfl #[.pointer (some ⟨g, 0, none⟩), .int .i64 262144] (by rfl) rfl rfl zL ?_
   with_reducible refine (spec_l1Below.calls g L F1 G1 262144 b3 I1 J1 w0 _ ?side1 ?side2 A21.out).mono ?_
   (case side1 => exact ww14a)
   (case side2 => exact ww14c)
   rintro e w32 ⟨rfl, hi, hb, hk⟩
   refine ⟨_, rfl, ?_⟩
   have b0 := zK (Kd.Q_mono (Kd.Q_keep (IsS94.apartQ (show IsS94 w0 _ g L F1 G1 from ww14a) (zkQ y) (by decide)) hk (fun _ h => h.2)) (fun _ h => h.1))
   have c0 := zK (Kd.R_mono (Kd.R_keep (IsS94.apart (show IsS94 w0 _ g L F1 G1 from ww14a) (zkR u) (by decide)) hk (fun _ h => h.2)) (fun _ h => h.1))
   have d0 := zK (KeepBut.blk hk (g' := t0) (o := .cells #[.slice none 0 0, .slice none 0 0, .slice none 0 0, .int .i64 0, .int .i64 0, .int .i64 0] 30 (0, 0)) (zM A) x0.out (by simp))
   have e0 := zK (KeepBut.blk hk (g' := T) (o := .cells #[.slice M0 E0.length N0, u450001, u450002, .int .i64 a0, .int .i64 ji5, .int .i64 U] 30 (0, 0)) (zM q) y0.out (by simp))
   have j0 := zK (Kd.R_mono (Kd.R_keep (IsS94.apart (show IsS94 w0 _ g L F1 G1 from ww14a) (zkR C0) (by decide)) hk (fun _ h => h.2)) (fun _ h => h.1))
   have m0 := zK (KeepBut.trans (ww14b) hk (.inl rfl))
   have n0 := zK (hb)
   have o0 := zK (hi)
   revert b0 c0 d0 e0 j0 m0 n0 o0
   clear y u A q C0 HK HB HI0
   intro y u A q C0 HK HB HI0
   (try clear hb)
   (try clear hb2)
   (try clear hk)
   (try clear hi)
   refine hK.out _ _ ⟨zy q 0, zy q 1, zy q 2, zy q 3, zy q 4, zy q 5⟩ (fun hHeld => ?_)
   clear hK K
   refine zU 31 ?_
   refine zP 4 32 (bl 9 31) HT_ ?_
   refine one_ (i := 5) (N := some 33) (bl 9 63) rfl rfl (one_of HT_.out (by kernel_rfl)) (by decide) (fun K hK => ?_)
   refine value_ (w1 := ?_) (v := ?_) (by rfl) rfl ?_ ?_
   rotate_left 2
   · go_simp
     constructor
     · rfl
     · rfl
   refine hK.out _ _ ⟨(zc (za q.out _) 0).trans rfl, (zc (za q.out _) 1).trans rfl, (zc (za q.out _) 2).trans rfl, (zc (za q.out _) 3).trans rfl, (zc (za q.out _) 4).trans rfl, (zc (za q.out _) 5).trans rfl⟩ (fun hHeld => ?_)
   clear hK K
   refine zU 33 ?_
   refine one_ (i := 6) (N := some 34) (bl 9 127) rfl rfl (one_of HT_.out (by kernel_rfl)) (by decide) (fun K hK => ?_)
   refine Kd.Q_append_step (Kd.int .i64) w.heap.size (by rfl) (.tmp 29) (.tmp 33) 26 3 (.int .i64 0) 8 rfl Try.underlying26 info3 rfl (by decide) (by omega) u450001 I (wrap64 (b3 - 131072)) [.int .i64 (wrap64 (b3 - 131072))] (fun k_ => some k_ ≠ (u450002 : Value).ownBlock ∧ some k_ ≠ (.slice M0 E0.length N0 : Value).ownBlock) (fun _ => False) rfl rfl ?aP (fun _ hk => hk.elim) ?aF ?aO (Below.refl _ _) ?aS ?aL ?_
   (case aP => exact rfl)
   (case aF => exact (fun k_ hk => ⟨Kd.fresh' (Kd.R_lt (zkR u)) k_ hk, Kd.fresh' (Kd.R_lt (zkR C0)) k_ hk⟩))
   (case aO => exact (zkQ y))
   (case aS => exact (keep_size (w := w) (g := g) (row := none) (ww14b)))
   (case aL => have := LMc22.out; omega)
   intro v463 V1 ho hb hg hat
   rw [← Ny462.out] at ho
   have b0 := zK (Kd.R_after (ok := (fun k_ => some k_ ≠ (.slice M0 E0.length N0 : Value).ownBlock)) (Kd.R_mono (zlR u.out) (fun _ hk => ⟨hk.2, hk.1⟩)) hg hat)
   have c0 := zK (blk_grown (zM A) hg (Kd.Q_ne y.out A.out (by decide)))
   have d0 := zK (blk_grown (zM q) hg (Kd.Q_ne y.out q.out (by decide)))
   have e0 := zK (IsS94.grown (ww14a) hg (IsS94.own_neQ HI0.out y.out (by decide)))
   have j0 := zK (Kd.R_after (ok := (fun k_ => some k_ ≠ (u450002 : Value).ownBlock)) (Kd.R_mono (zlR C0.out) (fun _ hk => ⟨hk.2, hk.1⟩)) hg hat)
   have m0 := zK (below_weaken (ww14c) HL.out hb)
   have n0 := zK (KeepBut.trans (ww14b) (KeepBut.of_grown hg g) (Kd.Q_base2 y.out))
   have o0 := zK (ho)
   revert b0 c0 d0 e0 j0 m0 n0 o0
   clear u A q HI0 C0 HB HK y
   intro u A q HI0 C0 HB HK T0
   clear ho hb hg hat
   obtain ⟨a1, b1, B5, _⟩ := Kd.Q_slice T0.out
   (first | subst B5 | (injection B5 with f1_ f2_ f3_; have f4_ := f1_.symm; have f5_ := f3_.symm; clear f1_ f2_ f3_; subst f4_; subst f5_))
   refine hK.out _ _ ⟨zy q 0, zy q 1, zy q 2, zy q 3, zy q 4, zy q 5⟩ (fun hHeld => ?_)
   clear hK K
   refine zU 34 ?_
   refine zP 7 35 (bl 9 255) HT_ ?_
   refine last_ (i := 8) (N := none) (bl 9 511) rfl rfl (one_of HT_.out (by kernel_rfl)) (by decide) (fun K hK => ?_)
   have b2a : V1.cell? ⟨T, 1, none⟩ = some (u450001) := zy q 1
   have hfs35 := zf q.out 1
   have hns35_0 := F0.out
   have hms35_0 := G0.out
   refine skip_ (w1 := ?_) (by rfl) rfl ?_ ?_
   rotate_left
   · go_simp
     rfl
   refine hK.out _ _ ?_
   clear hK K
   refine done_ (done_of HT_.out (by kernel_rfl)) ?_
   try go_wp2
   have b0 : Aside0 (Kd.R (Kd.int .i64) 3 (V1.setCell ⟨T, 1, none⟩ (.slice a1 R0.length b1)) w.heap.size (fun k_ => some k_ ≠ (.slice M0 E0.length N0 : Value).ownBlock ∧ some k_ ≠ (.slice a1 R0.length b1 : Value).ownBlock) u450002 J) := ⟨Kd.R_mono (zlR (Kd.R_types u.out q.out (by decide))) (fun _ hk => ⟨hk.1.1, hk.1.2⟩)⟩
   have c0 : Aside0 (Kd.R (Kd.int .i64) 3 (V1.setCell ⟨T, 1, none⟩ (.slice a1 R0.length b1)) w.heap.size (fun k_ => some k_ ≠ (u450002 : Value).ownBlock ∧ some k_ ≠ (.slice a1 R0.length b1 : Value).ownBlock) (.slice M0 E0.length N0) E0) := ⟨Kd.R_mono (zlR (Kd.R_types C0.out q.out (by decide))) (fun _ hk => ⟨hk.1.1, hk.1.2⟩)⟩
   have d0 : Aside0 (Kd.Q (Kd.int .i64) 3 (V1.setCell ⟨T, 1, none⟩ (.slice a1 R0.length b1)) w.heap.size (fun k_ => some k_ ≠ (u450002 : Value).ownBlock ∧ some k_ ≠ (.slice M0 E0.length N0 : Value).ownBlock) (.slice a1 R0.length b1) R0) := ⟨Kd.Q_mono (zlQ (Kd.Q_types T0.out q.out (by decide))) (fun _ hk => ⟨hk.1.1, hk.1.2⟩)⟩
   have e0 : Aside0 ((V1.setCell ⟨T, 1, none⟩ (.slice a1 R0.length b1)).heap[t0]? = some (.cells #[.slice none 0 0, .slice none 0 0, .slice none 0 0, .int .i64 0, .int .i64 0, .int .i64 0] 30 (0, 0))) := ⟨zV A⟩
   have j0 : Aside0 ((V1.setCell ⟨T, 1, none⟩ (.slice a1 R0.length b1)).heap[T]? = some (.cells #[.slice M0 E0.length N0, .slice a1 R0.length b1, u450002, .int .i64 a0, .int .i64 ji5, .int .i64 U] 30 (0, 0))) := ⟨zW q⟩
   have m0 : Aside0 (IsS94 w0 (V1.setCell ⟨T, 1, none⟩ (.slice a1 R0.length b1)) g L I1 J1) := ⟨ww14a⟩
   have n0 : Aside0 (KeepBut w (V1.setCell ⟨T, 1, none⟩ (.slice a1 R0.length b1)) g none) := ⟨ww14b⟩
   have o0 : Aside0 (Below w0.heap.size w0 (V1.setCell ⟨T, 1, none⟩ (.slice a1 R0.length b1))) := ⟨ww14c⟩
   (try clear u)
   (try clear C0)
   (try clear T0)
   (try clear A)
   (try clear q)
   (try clear HI0)
   (try clear HK)
   (try clear HB)
   generalize (V1.setCell ⟨T, 1, none⟩ (.slice a1 R0.length b1)) = w36 at b0 c0 d0 e0 j0 m0 n0 o0 ⊢
   revert b0 c0 d0 e0 j0 m0 n0 o0
   intro u C0 T0 A q HI0 HK HB
   have b0 := zK (Kd.R_drew u.out)
   have c0 := zK (Kd.R_drew C0.out)
   have d0 := zK (Kd.Q_drew T0.out)
   have e0 := zK (zd A.out)
   have j0 := zK (zd q.out)
   have m0 := zK (IsS94.drew HI0.out)
   have n0 := zK (keep_drew HK.out)
   have o0 := zK (ze HB.out)
   revert b0 c0 d0 e0 j0 m0 n0 o0
   clear u C0 T0 A q HI0 HK HB
   intro u C0 T0 A q HI0 HK HB
   refine start_ (n := 8) (S := fun w' => w'.cell? ⟨T, 0, none⟩ = some (.slice M0 E0.length N0) ∧ w'.cell? ⟨T, 1, none⟩ = some (.slice a1 R0.length b1) ∧ w'.cell? ⟨T, 2, none⟩ = some (u450002) ∧ w'.cell? ⟨T, 3, none⟩ = some (.int .i64 a0) ∧ w'.cell? ⟨T, 4, none⟩ = some (.int .i64 ji5) ∧ w'.cell? ⟨T, 5, none⟩ = some (.int .i64 U)) (ds := [7]) (bl 8 0) (by kernel_rfl) rfl (by kernel_rfl) ⟨zy q 0, zy q 1, zy q 2, zy q 3, zy q 4, zy q 5⟩ (fun hHeld => ?_); refine with_tabW spec_l15DrawOpt.tab7 spec_l15DrawOpt.bits7 (fun HT_ HW_ => ?_)
   generalize w36.drew = w37 at u C0 T0 A q HI0 HK HB hHeld ⊢
   refine zP 0 36 (bl 8 1) HT_ ?_
   refine zP 2 38 (bl 8 5) HT_ ?_
   refine zT 1 37 (bl 8 7) rfl rfl HT_ HW_ hHeld (by rintro w' ⟨s0, s1, s2, s3, s4, s5⟩; go_simp; with_reducible rfl) ?_
   refine one_ (i := 3) (N := some 39) (bl 8 15) rfl rfl (one_of HT_.out (by kernel_rfl)) (by decide) (fun K hK => ?_)
   refine goes_ Try.func60 (by kernel_rfl) rfl #[.pointer (some ⟨g, 0, none⟩), .int .i64 262144] (by rfl) rfl rfl zL ?_
   with_reducible refine (spec_l1Below.calls g L I1 J1 262144 c3 y3 A3 w0 _ ?side1 ?side2 A23.out).mono ?_
   (case side1 => exact ww14a)
   (case side2 => exact ww14c)
   rintro e w38 ⟨rfl, hi, hb, hk⟩
   refine ⟨_, rfl, ?_⟩
   have b0 := zK (Kd.R_mono (Kd.R_keep (IsS94.apart (show IsS94 w0 _ g L I1 J1 from ww14a) (zkR u) (by decide)) hk (fun _ h => h.2)) (fun _ h => h.1))
   have c0 := zK (KeepBut.blk hk (g' := t0) (o := .cells #[.slice none 0 0, .slice none 0 0, .slice none 0 0, .int .i64 0, .int .i64 0, .int .i64 0] 30 (0, 0)) (zM A) x0.out (by simp))
   have d0 := zK (KeepBut.blk hk (g' := T) (o := .cells #[.slice M0 E0.length N0, .slice a1 R0.length b1, u450002, .int .i64 a0, .int .i64 ji5, .int .i64 U] 30 (0, 0)) (zM q) y0.out (by simp))
   have e0 := zK (Kd.R_mono (Kd.R_keep (IsS94.apart (show IsS94 w0 _ g L I1 J1 from ww14a) (zkR C0) (by decide)) hk (fun _ h => h.2)) (fun _ h => h.1))
   have j0 := zK (Kd.Q_mono (Kd.Q_keep (IsS94.apartQ (show IsS94 w0 _ g L I1 J1 from ww14a) (zkQ T0) (by decide)) hk (fun _ h => h.2)) (fun _ h => h.1))
   have m0 := zK (KeepBut.trans (ww14b) hk (.inl rfl))
   have n0 := zK (hb)
   have o0 := zK (hi)
   revert b0 c0 d0 e0 j0 m0 n0 o0
   clear u A q C0 T0 HK HB HI0
   intro u A q C0 T0 HK HB HI0
   (try clear hb)
   (try clear hb2)
   (try clear hk)
   (try clear hi)
   refine hK.out _ _ ⟨zy q 0, zy q 1, zy q 2, zy q 3, zy q 4, zy q 5⟩ (fun hHeld => ?_)
   clear hK K
   refine zU 39 ?_
   refine one_ (i := 4) (N := some 40) (bl 8 31) rfl rfl (one_of HT_.out (by kernel_rfl)) (by decide) (fun K hK => ?_)
   refine value_ (w1 := ?_) (v := ?_) (by rfl) rfl ?_ ?_
   rotate_left 2
   · go_simp
     constructor
     · rfl
     · rfl
   refine hK.out _ _ ⟨(zc (za q.out _) 0).trans rfl, (zc (za q.out _) 1).trans rfl, (zc (za q.out _) 2).trans rfl, (zc (za q.out _) 3).trans rfl, (zc (za q.out _) 4).trans rfl, (zc (za q.out _) 5).trans rfl⟩ (fun hHeld => ?_)
   clear hK K
   refine zU 40 ?_
   refine one_ (i := 5) (N := some 41) (bl 8 63) rfl rfl (one_of HT_.out (by kernel_rfl)) (by decide) (fun K hK => ?_)
   refine Kd.R_append_step (Kd.int .i64) w.heap.size (by rfl) (.tmp 37) (.tmp 40) 26 3 (.int .i64 0) 8 rfl Try.underlying26 info3 rfl (by decide) (by omega) u450002 J c3 [.int .i64 c3] (fun k_ => some k_ ≠ (.slice M0 E0.length N0 : Value).ownBlock ∧ some k_ ≠ (.slice a1 R0.length b1 : Value).ownBlock) (fun _ => False) rfl rfl ?aP (fun _ hk => hk.elim) ?aF ?aO (Below.refl _ _) ?aS ?aL ?_
   (case aP => exact rfl)
   (case aF => exact (fun k_ hk => ⟨Kd.fresh' (Kd.R_lt (zkR C0)) k_ hk, Kd.fresh' (Kd.Q_lt (zkQ T0)) k_ hk⟩))
   (case aO => exact (zkR u))
   (case aS => exact (keep_size (w := w) (g := g) (row := none) (ww14b)))
   (case aL => have := LMc24.out; omega)
   intro v469 w39 ho hb hg hat
   rw [← Ny468.out] at ho
   have b0 := zK (blk_grown (zM A) hg (Kd.R_ne u.out A.out (by decide)))
   have c0 := zK (blk_grown (zM q) hg (Kd.R_ne u.out q.out (by decide)))
   have d0 := zK (IsS94.grown (ww14a) hg (IsS94.own_ne HI0.out u.out (by decide)))
   have e0 := zK (Kd.R_after (ok := (fun k_ => some k_ ≠ (.slice a1 R0.length b1 : Value).ownBlock)) (Kd.R_mono (zlR C0.out) (fun _ hk => ⟨hk.2, hk.1⟩)) hg hat)
   have j0 := zK (Kd.Q_after (ok := (fun k_ => some k_ ≠ (.slice M0 E0.length N0 : Value).ownBlock)) (Kd.Q_mono (zlQ T0.out) (fun _ hk => ⟨hk.2, hk.1⟩)) hg hat)
   have m0 := zK (below_weaken (ww14c) HL.out hb)
   have n0 := zK (KeepBut.trans (ww14b) (KeepBut.of_grown hg g) (Kd.R_base2 u.out))
   have o0 := zK (ho)
   revert b0 c0 d0 e0 j0 m0 n0 o0
   clear A q HI0 C0 T0 HB HK u
   intro A q HI0 C0 T0 HB HK q4
   clear ho hb hg hat
   obtain ⟨B8, C8, C5⟩ := Kd.R_slice q4.out
   (first | subst C5 | (injection C5 with f1_ f2_ f3_; have f4_ := f1_.symm; have f5_ := f3_.symm; clear f1_ f2_ f3_; subst f4_; subst f5_))
   refine hK.out _ _ ⟨zy q 0, zy q 1, zy q 2, zy q 3, zy q 4, zy q 5⟩ (fun hHeld => ?_)
   clear hK K
   refine zU 41 ?_
   refine zP 6 42 (bl 8 127) HT_ ?_
   refine last_ (i := 7) (N := none) (bl 8 255) rfl rfl (one_of HT_.out (by kernel_rfl)) (by decide) (fun K hK => ?_)
   have b2b : w39.cell? ⟨T, 2, none⟩ = some (u450002) := zy q 2
   have hfs41 := zf q.out 2
   have hns41_0 := F0.out
   have hms41_0 := G0.out
   refine skip_ (w1 := ?_) (by rfl) rfl ?_ ?_
   rotate_left
   · go_simp
     rfl
   refine hK.out _ _ ?_
   clear hK K
   refine done_ (done_of HT_.out (by kernel_rfl)) ?_
   try go_wp2
   go_roundg k1
   case measure => have := o4.out; omega
   case rel => exact ⟨(wrap64 (m1 - 1)), (y3), (A3), (E0), (R0), (f4), (.slice M0 E0.length N0), (.slice a1 R0.length b1), (.slice B8 f4.length C8), zR, H', ⟨by have := o4.out; omega⟩, ⟨Kd.R_mono (zlR (Kd.R_types C0.out q.out (by decide))) (fun _ hk => ⟨hk.1.1, hk.1.2⟩)⟩, ⟨Kd.Q_mono (zlQ (Kd.Q_types T0.out q.out (by decide))) (fun _ hk => ⟨hk.1.1, hk.1.2⟩)⟩, ⟨Kd.R_mono (zlR (Kd.R_types q4.out q.out (by decide))) (fun _ hk => ⟨hk.1.1, hk.1.2⟩)⟩, ⟨zV A⟩, ⟨zW q⟩, ⟨ww14a⟩, ⟨ww14b⟩, ⟨ww14c⟩⟩
 rw [if_neg X2] at H
 have p4 := z2 X2
 clear X2
 have g4 := zK H
 clear H
 go_upto_region 8 with (fail)
 go_cut [50] (fun v50 wc => ∃ (kq : Nat) (j2 : Bool) (g0 : Int) (i0 : Int), v50 = .bool j2 ∧ Aside0 (spec_l15DrawOpt.j1 kq j2 L g0 i0 O I J a0 ji5 U = some (r1, r2, r3, r4, r5, r6, r7, r8)) ∧ Aside0 (kq ≤ k1) ∧ Aside0 (Kd.R (Kd.int .i64) 3 wc w.heap.size (fun k_ => some k_ ≠ (u450001 : Value).ownBlock ∧ some k_ ≠ (u450002 : Value).ownBlock) u450000 O) ∧ Aside0 (Kd.Q (Kd.int .i64) 3 wc w.heap.size (fun k_ => some k_ ≠ (u450000 : Value).ownBlock ∧ some k_ ≠ (u450002 : Value).ownBlock) u450001 I) ∧ Aside0 (Kd.R (Kd.int .i64) 3 wc w.heap.size (fun k_ => some k_ ≠ (u450000 : Value).ownBlock ∧ some k_ ≠ (u450001 : Value).ownBlock) u450002 J) ∧ Aside0 (wc.heap[t0]? = some (.cells #[(.slice none 0 0), (.slice none 0 0), (.slice none 0 0), .int .i64 0, .int .i64 0, .int .i64 0] 30 (0, 0))) ∧ Aside0 (wc.heap[T]? = some (.cells #[u450000, u450001, u450002, .int .i64 a0, .int .i64 ji5, .int .i64 U] 30 (0, 0))) ∧ Aside0 (IsS94 w0 wc g L g0 i0) ∧ Aside0 (KeepBut w wc g none) ∧ Aside0 (Below w0.heap.size w0 wc))
 case first =>
  have H := g4.out
  clear g4
  replace H := z6 H
  obtain ⟨⟨D5, G2, I2⟩, E5, H⟩ := H
  replace H : (if D5 = true then (spec_l15DrawOpt.j1 k1 (decide ((O.length : Int) > 0)) L G2 I2 O I J a0 ji5 U) else (spec_l15DrawOpt.j1 k1 false L G2 I2 O I J a0 ji5 U)) = some (r1, r2, r3, r4, r5, r6, r7, r8) := H
  have p8 := zK E5
  clear E5
  by_cases O3 : D5 = true
  rotate_left
  · replace O3 := Bool.eq_false_iff.mpr O3
    subst O3
    rw [if_neg (show ¬ (false = true) by decide)] at H
    have H' := zK H
    clear H
    go_wp2_with (first | ((with_reducible refine gc 76 rfl ?_); refine zF 44 Try.func76 #[.pointer (some ⟨g, 0, none⟩), .int .i64 8] rfl zL ?_; (with_reducible refine (spec_l1Once.calls g L J0 L0 8 false G2 I2 w0 _ ?side1 ?side2 p8.out).mono ?_); (case side1 => exact ww14a); (case side2 => exact ww14c); rintro e w50 ⟨rfl, hi, hb, hk⟩; refine ⟨_, rfl, ?_⟩; have b0 := zK (Kd.R_mono (Kd.R_keep (IsS94.apart (show IsS94 w0 _ g L J0 L0 from ww14a) (zkR z) (by decide)) hk (fun _ h => h.2)) (fun _ h => h.1)); have c0 := zK (Kd.Q_mono (Kd.Q_keep (IsS94.apartQ (show IsS94 w0 _ g L J0 L0 from ww14a) (zkQ y) (by decide)) hk (fun _ h => h.2)) (fun _ h => h.1)); have d0 := zK (Kd.R_mono (Kd.R_keep (IsS94.apart (show IsS94 w0 _ g L J0 L0 from ww14a) (zkR u) (by decide)) hk (fun _ h => h.2)) (fun _ h => h.1)); have e0 := zK (KeepBut.blk hk (g' := t0) (o := .cells #[.slice none 0 0, .slice none 0 0, .slice none 0 0, .int .i64 0, .int .i64 0, .int .i64 0] 30 (0, 0)) (zM A) x0.out (by simp)); have j0 := zK (KeepBut.blk hk (g' := T) (o := .cells #[u450000, u450001, u450002, .int .i64 a0, .int .i64 ji5, .int .i64 U] 30 (0, 0)) (zM q) y0.out (by simp)); have m0 := zK (KeepBut.trans (ww14b) hk (.inl rfl)); have n0 := zK (hb); have o0 := zK (hi); revert b0 c0 d0 e0 j0 m0 n0 o0; clear z y u A q HK HB HI0; intro z y u A q HK HB HI0))
    go_meet
    case rel => exact ⟨_, (false), (G2), (I2), zR, H', ⟨by have := o4.out; first | omega | exact Nat.le_refl _⟩, ⟨zkR z⟩, ⟨zkQ y⟩, ⟨zkR u⟩, ⟨zM A⟩, ⟨zM q⟩, ⟨ww14a⟩, ⟨ww14b⟩, ⟨ww14c⟩⟩
  subst O3
  rw [if_pos rfl] at H
  have H' := zK H
  clear H
  go_wp2_with (first | ((with_reducible refine gc 76 rfl ?_); refine zF 44 Try.func76 #[.pointer (some ⟨g, 0, none⟩), .int .i64 8] rfl zL ?_; (with_reducible refine (spec_l1Once.calls g L J0 L0 8 true G2 I2 w0 _ ?side1 ?side2 p8.out).mono ?_); (case side1 => exact ww14a); (case side2 => exact ww14c); rintro e w45 ⟨rfl, hi, hb, hk⟩; refine ⟨_, rfl, ?_⟩; have b0 := zK (Kd.R_mono (Kd.R_keep (IsS94.apart (show IsS94 w0 _ g L J0 L0 from ww14a) (zkR z) (by decide)) hk (fun _ h => h.2)) (fun _ h => h.1)); have c0 := zK (Kd.Q_mono (Kd.Q_keep (IsS94.apartQ (show IsS94 w0 _ g L J0 L0 from ww14a) (zkQ y) (by decide)) hk (fun _ h => h.2)) (fun _ h => h.1)); have d0 := zK (Kd.R_mono (Kd.R_keep (IsS94.apart (show IsS94 w0 _ g L J0 L0 from ww14a) (zkR u) (by decide)) hk (fun _ h => h.2)) (fun _ h => h.1)); have e0 := zK (KeepBut.blk hk (g' := t0) (o := .cells #[.slice none 0 0, .slice none 0 0, .slice none 0 0, .int .i64 0, .int .i64 0, .int .i64 0] 30 (0, 0)) (zM A) x0.out (by simp)); have j0 := zK (KeepBut.blk hk (g' := T) (o := .cells #[u450000, u450001, u450002, .int .i64 a0, .int .i64 ji5, .int .i64 U] 30 (0, 0)) (zM q) y0.out (by simp)); have m0 := zK (KeepBut.trans (ww14b) hk (.inl rfl)); have n0 := zK (hb); have o0 := zK (hi); revert b0 c0 d0 e0 j0 m0 n0 o0; clear z y u A q HK HB HI0; intro z y u A q HK HB HI0; have b0m := G0.out; have b0n := F0.out; have b0o := y0.out; have b0p := E.out; obtain ⟨T4, U4, V4, X4, a5, b5, d5, e5, f5, g5, i5, j5⟩ := zc6 q; obtain ⟨b2c, b2d, D8⟩ := Kd.R_slice z.out; subst D8))
  go_meet
  case rel => exact ⟨_, (decide ((O.length : Int) > 0)), (G2), (I2), zR, H', ⟨by have := o4.out; first | omega | exact Nat.le_refl _⟩, ⟨zkR z⟩, ⟨zkQ y⟩, ⟨zkR u⟩, ⟨zM A⟩, ⟨zM q⟩, ⟨ww14a⟩, ⟨ww14b⟩, ⟨ww14c⟩⟩
 case rest =>
  clear g4
  try clear c1
  try clear c2
  try clear p2
  try clear c4
  try clear c6
  try clear p6
  try clear c7
  try clear X2
  try clear p4
  try clear L3
  try clear M3
  try clear N3
  try clear O3
  try clear c46
  try clear c47
  try clear T4 U4 V4 X4 a5 b5 d5 e5 f5 g5 i5 j5
  obtain ⟨kq, j2, g0, i0, rfl, HA, b2e, z, y, u, A, q, HI0, HK, HB⟩ := hcut
  cases kq with
  | zero => exact absurd HA.out (by simp [spec_l15DrawOpt.j1])
  | succ b2f =>
   have H := HA.out
   clear HA
   simp only [spec_l15DrawOpt.j1] at H
   by_cases t4 : j2 = true
   rotate_left
   · as_aux_lemma =>
     replace t4 := Bool.eq_false_iff.mpr t4
     subst t4
     rw [if_neg (show ¬ (false = true) by decide)] at H
     simp only [Option.some.injEq, Prod.mk.injEq] at H
     obtain ⟨rfl, rfl, rfl, rfl, rfl, rfl, rfl, rfl⟩ := H
     have a8b := G0.out
     have a8c := F0.out
     have a8d := y0.out
     have a8e := E.out
     obtain ⟨E8, F8, G8, I8, J8, L8, M8, N8, O8, R8, S8, T8⟩ := zc6 q
     obtain ⟨C6, D6, E6⟩ := Kd.R_slice z.out
     subst E6
     have a8f := x0.out
     have a8g := D.out
     obtain ⟨U8, V8, X8, a9, b9, c9, d9, e9, f9, g9, i9, j9⟩ := zc6 A
     obtain ⟨F6, G6, I6, _⟩ := Kd.Q_slice y.out
     subst I6
     obtain ⟨J6, L6, M6⟩ := Kd.R_slice u.out
     subst M6
     go_wp2
     refine bodyPost_ret (results_cell_row rfl _ _ t0 30 #[.slice C6 O.length D6, .slice F6 I.length G6, .slice J6 J.length L6, .int .i64 a0, .int .i64 ji5, .int .i64 U] (0, 0) _ rfl (zW A) Try.underlying30 rfl (by kernel_rfl)) rfl ?_
     exact ⟨_, _, _, by first | rfl | (simp [errW_none, errW_some] <;> rfl) | (simp only [← hji3, ← hji5]; first | rfl | (simp [errW_none, errW_some] <;> rfl)) | (simp [*, errW_none, errW_some] <;> rfl), Kd.R_mono (zlR (Kd.R_types z.out A.out (by decide))) (fun _ hk => ⟨hk.1.1, hk.1.2⟩), Kd.Q_mono (zlQ (Kd.Q_types y.out A.out (by decide))) (fun _ hk => ⟨hk.1.1, hk.1.2⟩), Kd.R_mono (zlR (Kd.R_types u.out A.out (by decide))) (fun _ hk => ⟨hk.1.1, hk.1.2⟩), ww14a, ww14c, ww14b⟩
   subst t4
   rw [if_pos rfl] at H
   replace H := z6 H
   obtain ⟨⟨X0, A0, B0⟩, F5, H⟩ := H
   replace H : (if X0 = 0 then ((spec_l1PickInt.f L A0 B0 (([68719476736, (-68719476736), 68719476737] : List Int))).bind fun t1 => (if 0 < (O.length : Int) then (some ((O.set (0 : Int).toNat t1.1), I, J, a0, ji5, U, t1.2.1, t1.2.2)) else (none))) else (if X0 = 1 then ((spec_l1PickInt.f L A0 B0 (([4294967296, (-4294967296), 4294967297] : List Int))).bind fun x1 => (if 0 < (I.length : Int) then (some (O, (I.set (0 : Int).toNat x1.1), J, a0, ji5, U, x1.2.1, x1.2.2)) else (none))) else (if X0 = 2 then ((spec_l1PickInt.f L A0 B0 (([17179869184, 17179869185, (-1)] : List Int))).bind fun y1 => (if 0 < (J.length : Int) then (some (O, I, (J.set (0 : Int).toNat y1.1), a0, ji5, U, y1.2.1, y1.2.2)) else (none))) else (if X0 = 3 then ((spec_l1PickInt.f L A0 B0 (([3, 0, 131072] : List Int))).bind fun B1 => (some (O, I, J, a0, B1.1, U, B1.2.1, B1.2.2))) else (if X0 = 4 then ((spec_l1PickInt.f L A0 B0 (([1000000, 999999, (-1)] : List Int))).bind fun C1 => (some (O, I, J, C1.1, ji5, U, C1.2.1, C1.2.2))) else (if X0 = 5 then (if 1 ≤ (I.length : Int) then (some (O, (I.drop (1 : Int).toNat), J, a0, ji5, U, A0, B0)) else (none)) else (some (O, I, J, a0, ji5, U, A0, B0)))))))) = some (r1, r2, r3, r4, r5, r6, r7, r8) := H
   have d3 := zK F5
   clear F5
   by_cases e3 : X0 = 0
   · as_aux_lemma =>
     rw [if_pos e3] at H
     have N6 := beq_iff_eq.mpr e3
     have O6 := bne_eq_false_iff_eq.mpr e3
     clear e3
     obtain ⟨L1, l2⟩ : ∃ y_ : List Int, y_ = (([68719476736, (-68719476736), 68719476737] : List Int)) := ⟨_, rfl⟩
     replace H : ((spec_l1PickInt.f L A0 B0 L1).bind fun t1 => (if 0 < (O.length : Int) then (some ((O.set (0 : Int).toNat t1.1), I, J, a0, ji5, U, t1.2.1, t1.2.2)) else (none))) = some (r1, r2, r3, r4, r5, r6, r7, r8) := by first | (rw [l2]; with_reducible exact H) | (have D0 := (Option.bind_some _ _).symm.trans H; rw [l2]; with_reducible exact D0) | (have D0 := (Option.bind_some _ _).symm.trans H; with_reducible exact D0) | with_reducible exact H | (rw [l2]; exact H) | exact H
     have Ny477 := zK l2
     clear l2
     replace H := z6 H
     obtain ⟨⟨d1, B3, C3⟩, G5, H⟩ := H
     replace H : (if 0 < (O.length : Int) then (some ((O.set (0 : Int).toNat d1), I, J, a0, ji5, U, B3, C3)) else (none)) = some (r1, r2, r3, r4, r5, r6, r7, r8) := H
     have A54 := zK G5
     clear G5
     by_cases x4 : 0 < (O.length : Int)
     rotate_left
     · rw [if_neg x4] at H
       exact absurd H (by simp)
     rw [if_pos x4] at H
     have b0q := z1 x4
     have b0s : decide (0 < O.length) = true := z1 (by omega)
     clear x4
     obtain ⟨I5, m2⟩ : ∃ y_ : List Int, y_ = (O.set (0 : Int).toNat d1) := ⟨_, rfl⟩
     replace H : (some (I5, I, J, a0, ji5, U, B3, C3)) = some (r1, r2, r3, r4, r5, r6, r7, r8) := by first | (rw [m2]; with_reducible exact H) | (have D0 := (Option.bind_some _ _).symm.trans H; rw [m2]; with_reducible exact D0) | (have D0 := (Option.bind_some _ _).symm.trans H; with_reducible exact D0) | with_reducible exact H | (rw [m2]; exact H) | exact H
     have Ny483 := zK m2
     clear m2
     simp only [Option.some.injEq, Prod.mk.injEq] at H
     obtain ⟨rfl, rfl, rfl, rfl, rfl, rfl, rfl, rfl⟩ := H
     try go_wp2_with (first | ((with_reducible refine gc 60 rfl ?_); refine zF 52 Try.func60 #[.pointer (some ⟨g, 0, none⟩), .int .i64 6] rfl zL ?_; (with_reducible refine (spec_l1Below.calls g L g0 i0 6 X0 A0 B0 w0 _ ?side1 ?side2 d3.out).mono ?_); (case side1 => exact ww14a); (case side2 => exact ww14c); rintro e w57 ⟨rfl, hi, hb, hk⟩; refine ⟨_, rfl, ?_⟩; have b0 := zK (Kd.R_mono (Kd.R_keep (IsS94.apart (show IsS94 w0 _ g L g0 i0 from ww14a) (zkR z) (by decide)) hk (fun _ h => h.2)) (fun _ h => h.1)); have c0 := zK (Kd.Q_mono (Kd.Q_keep (IsS94.apartQ (show IsS94 w0 _ g L g0 i0 from ww14a) (zkQ y) (by decide)) hk (fun _ h => h.2)) (fun _ h => h.1)); have d0 := zK (Kd.R_mono (Kd.R_keep (IsS94.apart (show IsS94 w0 _ g L g0 i0 from ww14a) (zkR u) (by decide)) hk (fun _ h => h.2)) (fun _ h => h.1)); have e0 := zK (KeepBut.blk hk (g' := t0) (o := .cells #[.slice none 0 0, .slice none 0 0, .slice none 0 0, .int .i64 0, .int .i64 0, .int .i64 0] 30 (0, 0)) (zM A) x0.out (by simp)); have j0 := zK (KeepBut.blk hk (g' := T) (o := .cells #[u450000, u450001, u450002, .int .i64 a0, .int .i64 ji5, .int .i64 U] 30 (0, 0)) (zM q) y0.out (by simp)); have m0 := zK (KeepBut.trans (ww14b) hk (.inl rfl)); have n0 := zK (hb); have o0 := zK (hi); revert b0 c0 d0 e0 j0 m0 n0 o0; clear z y u A q HK HB HI0; intro z y u A q HK HB HI0))
     have b0 := zK (Kd.R_drew z.out)
     have c0 := zK (Kd.Q_drew y.out)
     have d0 := zK (Kd.R_drew u.out)
     have e0 := zK (zd A.out)
     have j0 := zK (zd q.out)
     have m0 := zK (IsS94.drew HI0.out)
     have n0 := zK (keep_drew HK.out)
     have o0 := zK (ze HB.out)
     revert b0 c0 d0 e0 j0 m0 n0 o0
     clear z y u A q HI0 HK HB
     intro z y u A q HI0 HK HB
     refine start_ (n := 7) (S := fun w' => w'.cell? ⟨T, 0, none⟩ = some (u450000) ∧ w'.cell? ⟨T, 1, none⟩ = some (u450001) ∧ w'.cell? ⟨T, 2, none⟩ = some (u450002) ∧ w'.cell? ⟨T, 3, none⟩ = some (.int .i64 a0) ∧ w'.cell? ⟨T, 4, none⟩ = some (.int .i64 ji5) ∧ w'.cell? ⟨T, 5, none⟩ = some (.int .i64 U)) (ds := [6]) (bl 7 0) (by kernel_rfl) rfl (by kernel_rfl) ⟨zy q 0, zy q 1, zy q 2, zy q 3, zy q 4, zy q 5⟩ (fun hHeld => ?_)
     generalize w57.drew = w58 at z y u A q HI0 HK HB hHeld ⊢
     refine pure_ (i := 0) (N := some 55) (v := ?_) (a' := ?_) (bl 7 1) rfl rfl (by kernel_rfl) (fun _ _ _ h => h) (Or.inl ⟨by rfl, ?_⟩) ?_ ?_
     rotate_left
     · intro w'
       go_simp
       with_reducible rfl
     rotate_left
     · simp only [Act.put, zq1, zq2, zq3, i64_w, i32_w]
       rfl
     refine pure_ (i := 2) (N := some 57) (v := ?_) (a' := ?_) (bl 7 5) rfl rfl (by kernel_rfl) (fun _ _ _ h => h) (Or.inl ⟨by rfl, ?_⟩) ?_ ?_
     rotate_left
     · intro w'
       go_simp
       with_reducible rfl
     rotate_left
     · simp only [Act.put, zq1, zq2, zq3, i64_w, i32_w]
       rfl
     refine take_ (i := 1) (N := some 56) (v := ?_) (a' := ?_) (bl 7 7) rfl rfl (by kernel_rfl) (fun _ _ _ h => h) (Or.inl ⟨by rfl, ?_⟩) hHeld ?_ ?_
     rotate_left
     · rintro w' ⟨s0, s1, s2, s3, s4, s5⟩
       go_simp
       with_reducible rfl
     rotate_left
     · simp only [Act.put, zq1, zq2, zq3, i64_w, i32_w]
       rfl
     refine one_ (i := 3) (N := some 58) (bl 7 15) rfl rfl (by kernel_rfl) (by decide) (fun K hK => ?_)
     refine Kd.R_lit_step (Kd.int .i64) _ 3 ?hg (N := 58) ?hd (xs := ([68719476736, (-68719476736), 68719476737] : List Int)) (inner := [.int .i64 68719476736, .int .i64 (-68719476736), .int .i64 68719476737]) (ok := fun _ => True) (okp := fun _ => True) ?hr ?hp (fun _ hk => hk) trivial (Below.refl _ _) (Nat.le_refl _) (by simp) ?_; (case hd => rfl); (case hg => rfl); (case hr => first | (go_simp; done) | (go_simp; rfl)); (case hp => exact (Reps.one (show Kd.M (Kd.int .i64) _ _ _ 68719476736 [.int .i64 68719476736] from rfl) (Reps.one (show Kd.M (Kd.int .i64) _ _ _ (-68719476736) [.int .i64 (-68719476736)] from rfl) (Reps.one (show Kd.M (Kd.int .i64) _ _ _ 68719476737 [.int .i64 68719476737] from rfl) (Reps.none _ _)))))
     intro v478 w59 M1 hb hg_ hnew_
     clear hg_ hnew_
     (first | rw [← Ny477.out] at M1 | (simp only [Int.reduceToNat] at M1; rw [← Ny477.out] at M1))
     have b0 := zK (Kd.R_elder' (zkR z) (Kd.R_base M1) hb)
     have c0 := zK (Kd.Q_elder' (zkQ y) (Kd.R_base M1) hb)
     have d0 := zK (Kd.R_elder' (zkR u) (Kd.R_base M1) hb)
     have e0 := zK (Kd.R_lower (Kd.R_new' (Kd.R_new' (Kd.R_new' M1 (Kd.R_lt (zkR z))) (Kd.Q_lt (zkQ y))) (Kd.R_lt (zkR u))) (keep_size (w := w) (g := g) (row := none) (ww14b)))
     have j0 := z7 A hb
     have m0 := z7 q hb
     have n0 := zK (IsS94.below (ww14a) hb)
     have o0 := zK (KeepBut.trans (ww14b) (KeepBut.of_below hb g none) (.inl rfl))
     have S0 := zK (zp (ww14c) hb)
     revert b0 c0 d0 e0 j0 m0 n0 o0 S0
     clear z y u A q HI0 HK HB
     intro z y u g1 A q HI0 HK HB
     clear hb M1
     obtain ⟨f3, g3, J5⟩ := Kd.R_slice g1.out
     (first | subst J5 | (injection J5 with f1_ f2_ f3_; have f4_ := f1_.symm; have f5_ := f3_.symm; clear f1_ f2_ f3_; subst f4_; subst f5_))
     refine hK.out _ _ ⟨zy q 0, zy q 1, zy q 2, zy q 3, zy q 4, zy q 5⟩ (fun hHeld => ?_)
     clear hK K
     refine zU 58 ?_
     refine one_ (i := 4) (N := some 59) (bl 7 31) rfl rfl (by kernel_rfl) (by decide) (fun K hK => ?_)
     refine goes_ Try.func77 (by kernel_rfl) rfl #[.pointer (some ⟨g, 0, none⟩), .slice f3 L1.length g3] (by rfl) rfl rfl zL ?_
     with_reducible refine (spec_l1PickInt.calls g L A0 B0 _ _ L1 d1 B3 C3 w0 _ ?side1 ?side2 ?side3 ?side4 ?side5 A54.out).mono ?_
     (case side1 => exact ww14a)
     (case side2 => exact ww14c)
     (case side3 => exact zC (Kd.R_reads' g1.out).2.2)
     (case side4 => exact (Kd.R_reads' g1.out).2.1)
     (case side5 => exact far_slice (IsS94.own_ne HI0.out g1.out (by decide)))
     rintro e X1 ⟨rfl, hi, hb, hk⟩
     refine ⟨_, rfl, ?_⟩
     have b0 := zK (Kd.R_mono (Kd.R_keep (IsS94.apart (show IsS94 w0 _ g L A0 B0 from ww14a) (zkR z) (by decide)) hk (fun _ h => h.2)) (fun _ h => h.1))
     have c0 := zK (Kd.Q_mono (Kd.Q_keep (IsS94.apartQ (show IsS94 w0 _ g L A0 B0 from ww14a) (zkQ y) (by decide)) hk (fun _ h => h.2)) (fun _ h => h.1))
     have d0 := zK (Kd.R_mono (Kd.R_keep (IsS94.apart (show IsS94 w0 _ g L A0 B0 from ww14a) (zkR u) (by decide)) hk (fun _ h => h.2)) (fun _ h => h.1))
     have e0 := zK (KeepBut.blk hk (g' := t0) (o := .cells #[.slice none 0 0, .slice none 0 0, .slice none 0 0, .int .i64 0, .int .i64 0, .int .i64 0] 30 (0, 0)) (zM A) x0.out (by simp))
     have j0 := zK (KeepBut.blk hk (g' := T) (o := .cells #[u450000, u450001, u450002, .int .i64 a0, .int .i64 ji5, .int .i64 U] 30 (0, 0)) (zM q) y0.out (by simp))
     have m0 := zK (Kd.R_mono (Kd.R_keep (IsS94.apart (show IsS94 w0 _ g L A0 B0 from ww14a) (zkR g1) (by decide)) hk (fun _ h => h.2)) (fun _ h => h.1))
     have n0 := zK (KeepBut.trans (ww14b) hk (.inl rfl))
     have o0 := zK (hb)
     have S0 := zK (hi)
     revert b0 c0 d0 e0 j0 m0 n0 o0 S0
     clear z y u A q g1 HK HB HI0
     intro z y u A q g1 HK HB HI0
     (try clear hb)
     (try clear hb2)
     (try clear hk)
     (try clear hi)
     have L5 : 0 ≤ (0 : Int) := (by omega)
     have M5 : (0 : Int) < ((O.length : Int) : Int) := z3
     have qi56 : (0 < O.length) = True := eq_true (by omega)
     obtain ⟨go56, J2, N5, O5, gl56, cl56, HG56⟩ := Kd.R_form z.out (by omega)
     (first | cases N5 | (injection N5 with ea_ en_ ec_; (first | subst ea_ | (injection ea_ with ea_; subst ea_)); subst ec_; clear en_))
     have GB56 := zK O5
     have GG56 := zK HG56
     clear O5 gl56 HG56
     obtain ⟨R3, hf56_0⟩ := Kd.R_celln 0 z.out (0 : Int) L5 M5
     (try rw [show ((0 : Int)).toNat = 0 from rfl] at R3)
     (try simp only [Nat.reduceMul, Nat.zero_mul, Nat.zero_add, Nat.add_zero, Nat.reduceAdd] at R3)
     (try rw [show ((0 : Int)).toNat = 0 from rfl] at hf56_0)
     (try simp only [Nat.reduceMul, Nat.zero_mul, Nat.zero_add, Nat.add_zero, Nat.reduceAdd] at hf56_0)
     replace L5 := eq_true L5
     replace M5 := eq_true M5
     have HN0_go56 := zK (show g ≠ go56 from by have h_ := IsS94.own_ne HI0.out z.out (by decide); intro e_; exact h_ (by rw [e_]; rfl))
     have HP63 := Kd.R_putn z.out (0 : Int) d1
     rw [← Ny483.out] at HP63
     have HQ63 := zK HP63
     clear HP63
     refine hK.out _ _ ⟨zy q 0, zy q 1, zy q 2, zy q 3, zy q 4, zy q 5⟩ (fun hHeld => ?_)
     clear hK K
     refine zU 59 ?_
     refine pure_ (i := 5) (N := some 60) (v := ?_) (a' := ?_) (bl 7 63) rfl rfl (by kernel_rfl) (fun _ _ _ h => h) (Or.inl ⟨by rfl, ?_⟩) ?_ ?_
     rotate_left
     · intro w'
       go_simp
       with_reducible rfl
     rotate_left
     · simp only [Act.put, zq1, zq2, zq3, i64_w, i32_w]
       rfl
     refine last_ (i := 6) (N := none) (bl 7 127) rfl rfl (by kernel_rfl) (by decide) (fun K hK => ?_)
     refine skip_ (w1 := ?_) (by rfl) rfl ?_ ?_
     rotate_left
     · go_simp
       rfl
     refine hK.out _ _ ?_
     clear hK K
     refine done_ (by kernel_rfl) ?_
     have b0 : Aside0 (Kd.R (Kd.int .i64) 3 (X1.setCell ⟨go56, 0, none⟩ (.int .i64 d1)) w.heap.size (fun k_ => some k_ ≠ (u450001 : Value).ownBlock ∧ some k_ ≠ (u450002 : Value).ownBlock ∧ some k_ ≠ (.slice f3 L1.length g3 : Value).ownBlock) (.slice (some ⟨go56, 0, none⟩) O.length J2) I5) := ⟨Kd.R_mono (zlR HQ63.out) (fun _ hk => ⟨hk.1.1, ⟨hk.1.2, hk.2⟩⟩)⟩
     have c0 : Aside0 (Kd.Q (Kd.int .i64) 3 (X1.setCell ⟨go56, 0, none⟩ (.int .i64 d1)) w.heap.size (fun k_ => some k_ ≠ (.slice (some ⟨go56, 0, none⟩) O.length J2 : Value).ownBlock ∧ some k_ ≠ (u450002 : Value).ownBlock ∧ some k_ ≠ (.slice f3 L1.length g3 : Value).ownBlock) u450001 I) := ⟨Kd.Q_mono (zlQ (Kd.Q_mono y.out (fun k_ hk => (⟨hk, fun e_ => hk.1.1 (by rw [e_]; rfl)⟩ : _ ∧ k_ ≠ go56)))) (fun _ hk => ⟨hk.1.1.1, ⟨hk.1.1.2, hk.1.2⟩⟩)⟩
     have d0 : Aside0 (Kd.R (Kd.int .i64) 3 (X1.setCell ⟨go56, 0, none⟩ (.int .i64 d1)) w.heap.size (fun k_ => some k_ ≠ (.slice (some ⟨go56, 0, none⟩) O.length J2 : Value).ownBlock ∧ some k_ ≠ (u450001 : Value).ownBlock ∧ some k_ ≠ (.slice f3 L1.length g3 : Value).ownBlock) u450002 J) := ⟨Kd.R_mono (zlR (Kd.R_mono u.out (fun k_ hk => (⟨hk, fun e_ => hk.1.1 (by rw [e_]; rfl)⟩ : _ ∧ k_ ≠ go56)))) (fun _ hk => ⟨hk.1.1.1, ⟨hk.1.1.2, hk.1.2⟩⟩)⟩
     have e0 : Aside0 (Kd.R (Kd.int .i64) 3 (X1.setCell ⟨go56, 0, none⟩ (.int .i64 d1)) w.heap.size (fun k_ => some k_ ≠ (.slice (some ⟨go56, 0, none⟩) O.length J2 : Value).ownBlock ∧ some k_ ≠ (u450001 : Value).ownBlock ∧ some k_ ≠ (u450002 : Value).ownBlock) (.slice f3 L1.length g3) L1) := ⟨Kd.R_mono (zlR (Kd.R_mono g1.out (fun k_ hk => (⟨hk, fun e_ => hk.1.1.2 (by rw [e_]; rfl)⟩ : _ ∧ k_ ≠ go56)))) (fun _ hk => ⟨hk.1.1.1.2, ⟨hk.1.1.2, hk.1.2⟩⟩)⟩
     have j0 : Aside0 ((X1.setCell ⟨go56, 0, none⟩ (.int .i64 d1)).heap[t0]? = some (.cells #[.slice none 0 0, .slice none 0 0, .slice none 0 0, .int .i64 0, .int .i64 0, .int .i64 0] 30 (0, 0))) := ⟨by (with_reducible repeat (first | refine zn ?_ _ | refine zd ?_ | refine za ?_ _)); refine blk_far ?_ (by have h_ := Kd.R_ne z.out A.out (by decide); intro e_; exact h_ (by rw [e_]; rfl)) _; (with_reducible repeat (first | refine zn ?_ _ | refine zd ?_ | refine za ?_ _)); exact A.out⟩
     have m0 : Aside0 ((X1.setCell ⟨go56, 0, none⟩ (.int .i64 d1)).heap[T]? = some (.cells #[.slice (some ⟨go56, 0, none⟩) O.length J2, u450001, u450002, .int .i64 a0, .int .i64 ji5, .int .i64 U] 30 (0, 0))) := ⟨by (with_reducible repeat (first | refine zn ?_ _ | refine zd ?_ | refine za ?_ _)); refine blk_far ?_ (by have h_ := Kd.R_ne z.out q.out (by decide); intro e_; exact h_ (by rw [e_]; rfl)) _; (with_reducible repeat (first | refine zn ?_ _ | refine zd ?_ | refine za ?_ _)); exact q.out⟩
     have n0 : Aside0 (IsS94 w0 (X1.setCell ⟨go56, 0, none⟩ (.int .i64 d1)) g L B3 C3) := ⟨by repeat (first | (with_reducible first | exact HI0.out | apply IsS94.alloc | apply IsS94.drewN | apply IsS94.drew | apply IsS94.set_1 | apply IsS94.set_2 | refine IsS94.far ?_ HN0_go56.out _ | refine IsS94.far ?_ D.out _ | refine IsS94.far ?_ E.out _) | exact HI0.out)⟩
     have o0 : Aside0 (KeepBut w (X1.setCell ⟨go56, 0, none⟩ (.int .i64 d1)) g none) := ⟨by repeat (first | (with_reducible first | exact HK.out | apply KeepBut.set_ | apply keep_drewN | apply keep_drew | apply keep_alloc | refine keep_far ?_ GB56.out _ | refine keep_far ?_ X.out _ | refine keep_far ?_ f0.out _) | exact HK.out)⟩
     have S0 : Aside0 (Below w0.heap.size w0 (X1.setCell ⟨go56, 0, none⟩ (.int .i64 d1))) := ⟨by repeat (first | (with_reducible first | exact HB.out | apply zb | apply zw | apply ze | refine zs ?_ (Nat.le_trans HL.out GB56.out) | refine zs ?_ (IsS94.ge HI0.out) | refine zs ?_ p0.out | refine zs ?_ q0.out) | exact HB.out)⟩
     (try clear z)
     (try clear y)
     (try clear u)
     (try clear g1)
     (try clear A)
     (try clear q)
     (try clear HI0)
     (try clear HK)
     (try clear HB)
     generalize (X1.setCell ⟨go56, 0, none⟩ (.int .i64 d1)) = w64 at b0 c0 d0 e0 j0 m0 n0 o0 S0 ⊢
     revert b0 c0 d0 e0 j0 m0 n0 o0 S0
     intro z y u g1 A q HI0 HK HB
     have b0t := G0.out
     have b0u := F0.out
     have b0x := y0.out
     have b0y := E.out
     obtain ⟨a5g, a5j, a5l, a5m, a5n, a5o, a5p, a5q, a5s, a5t, a5u, a5x⟩ := zc6 q
     have b0z := x0.out
     have b1a := D.out
     obtain ⟨a5y, a5z, a6a, a6b, a6c, a6d, a6e, a6f, a6g, a6j, a6l, a6m⟩ := zc6 A
     obtain ⟨l9, m9, n9, _⟩ := Kd.Q_slice y.out
     subst n9
     obtain ⟨o9, p9, q9⟩ := Kd.R_slice u.out
     subst q9
     try go_wp2
     refine bodyPost_ret (results_cell_row rfl _ _ t0 30 #[.slice (some ⟨go56, 0, none⟩) O.length J2, .slice l9 I.length m9, .slice o9 J.length p9, .int .i64 a0, .int .i64 ji5, .int .i64 U] (0, 0) _ rfl (zW A) Try.underlying30 rfl (by kernel_rfl)) rfl ?_
     exact ⟨_, _, _, by first | rfl | (simp [errW_none, errW_some] <;> rfl) | (simp only [← hji3, ← hji5]; first | rfl | (simp [errW_none, errW_some] <;> rfl)) | (simp [*, errW_none, errW_some] <;> rfl), Kd.R_mono (zlR (Kd.R_types z.out A.out (by decide))) (fun _ hk => ⟨hk.1.1, hk.1.2.1⟩), Kd.Q_mono (zlQ (Kd.Q_types y.out A.out (by decide))) (fun _ hk => ⟨hk.1.1, hk.1.2.1⟩), Kd.R_mono (zlR (Kd.R_types u.out A.out (by decide))) (fun _ hk => ⟨hk.1.1, hk.1.2.1⟩), ww14a, ww14c, ww14b⟩
   rw [if_neg e3] at H
   have N6 := beq_eq_false_iff_ne.mpr e3
   have O6 := bne_iff_ne.mpr e3
   by_cases i3 : X0 = 1
   · as_aux_lemma =>
     rw [if_pos i3] at H
     have R6 := beq_iff_eq.mpr i3
     have S6 := bne_eq_false_iff_eq.mpr i3
     clear i3
     obtain ⟨N1, n2⟩ : ∃ y_ : List Int, y_ = (([4294967296, (-4294967296), 4294967297] : List Int)) := ⟨_, rfl⟩
     replace H : ((spec_l1PickInt.f L A0 B0 N1).bind fun x1 => (if 0 < (I.length : Int) then (some (O, (I.set (0 : Int).toNat x1.1), J, a0, ji5, U, x1.2.1, x1.2.2)) else (none))) = some (r1, r2, r3, r4, r5, r6, r7, r8) := by first | (rw [n2]; with_reducible exact H) | (have D0 := (Option.bind_some _ _).symm.trans H; rw [n2]; with_reducible exact D0) | (have D0 := (Option.bind_some _ _).symm.trans H; with_reducible exact D0) | with_reducible exact H | (rw [n2]; exact H) | exact H
     have Ny484 := zK n2
     clear n2
     replace H := z6 H
     obtain ⟨⟨e1, D3, E3⟩, R5, H⟩ := H
     replace H : (if 0 < (I.length : Int) then (some (O, (I.set (0 : Int).toNat e1), J, a0, ji5, U, D3, E3)) else (none)) = some (r1, r2, r3, r4, r5, r6, r7, r8) := H
     have A73 := zK R5
     clear R5
     by_cases y4 : 0 < (I.length : Int)
     rotate_left
     · rw [if_neg y4] at H
       exact absurd H (by simp)
     rw [if_pos y4] at H
     have b1b := z1 y4
     have b1c : decide (0 < I.length) = true := z1 (by omega)
     clear y4
     obtain ⟨S5, o2⟩ : ∃ y_ : List Int, y_ = (I.set (0 : Int).toNat e1) := ⟨_, rfl⟩
     replace H : (some (O, S5, J, a0, ji5, U, D3, E3)) = some (r1, r2, r3, r4, r5, r6, r7, r8) := by first | (rw [o2]; with_reducible exact H) | (have D0 := (Option.bind_some _ _).symm.trans H; rw [o2]; with_reducible exact D0) | (have D0 := (Option.bind_some _ _).symm.trans H; with_reducible exact D0) | with_reducible exact H | (rw [o2]; exact H) | exact H
     have Ny490 := zK o2
     clear o2
     simp only [Option.some.injEq, Prod.mk.injEq] at H
     obtain ⟨rfl, rfl, rfl, rfl, rfl, rfl, rfl, rfl⟩ := H
     try go_wp2_with (first | ((with_reducible refine gc 60 rfl ?_); refine zF 52 Try.func60 #[.pointer (some ⟨g, 0, none⟩), .int .i64 6] rfl zL ?_; (with_reducible refine (spec_l1Below.calls g L g0 i0 6 X0 A0 B0 w0 _ ?side1 ?side2 d3.out).mono ?_); (case side1 => exact ww14a); (case side2 => exact ww14c); rintro e w76 ⟨rfl, hi, hb, hk⟩; refine ⟨_, rfl, ?_⟩; have b0 := zK (Kd.R_mono (Kd.R_keep (IsS94.apart (show IsS94 w0 _ g L g0 i0 from ww14a) (zkR z) (by decide)) hk (fun _ h => h.2)) (fun _ h => h.1)); have c0 := zK (Kd.Q_mono (Kd.Q_keep (IsS94.apartQ (show IsS94 w0 _ g L g0 i0 from ww14a) (zkQ y) (by decide)) hk (fun _ h => h.2)) (fun _ h => h.1)); have d0 := zK (Kd.R_mono (Kd.R_keep (IsS94.apart (show IsS94 w0 _ g L g0 i0 from ww14a) (zkR u) (by decide)) hk (fun _ h => h.2)) (fun _ h => h.1)); have e0 := zK (KeepBut.blk hk (g' := t0) (o := .cells #[.slice none 0 0, .slice none 0 0, .slice none 0 0, .int .i64 0, .int .i64 0, .int .i64 0] 30 (0, 0)) (zM A) x0.out (by simp)); have j0 := zK (KeepBut.blk hk (g' := T) (o := .cells #[u450000, u450001, u450002, .int .i64 a0, .int .i64 ji5, .int .i64 U] 30 (0, 0)) (zM q) y0.out (by simp)); have m0 := zK (KeepBut.trans (ww14b) hk (.inl rfl)); have n0 := zK (hb); have o0 := zK (hi); revert b0 c0 d0 e0 j0 m0 n0 o0; clear z y u A q HK HB HI0; intro z y u A q HK HB HI0))
     have b0 := zK (Kd.R_drew z.out)
     have c0 := zK (Kd.Q_drew y.out)
     have d0 := zK (Kd.R_drew u.out)
     have e0 := zK (zd A.out)
     have j0 := zK (zd q.out)
     have m0 := zK (IsS94.drew HI0.out)
     have n0 := zK (keep_drew HK.out)
     have o0 := zK (ze HB.out)
     revert b0 c0 d0 e0 j0 m0 n0 o0
     clear z y u A q HI0 HK HB
     intro z y u A q HI0 HK HB
     refine start_ (n := 7) (S := fun w' => w'.cell? ⟨T, 0, none⟩ = some (u450000) ∧ w'.cell? ⟨T, 1, none⟩ = some (u450001) ∧ w'.cell? ⟨T, 2, none⟩ = some (u450002) ∧ w'.cell? ⟨T, 3, none⟩ = some (.int .i64 a0) ∧ w'.cell? ⟨T, 4, none⟩ = some (.int .i64 ji5) ∧ w'.cell? ⟨T, 5, none⟩ = some (.int .i64 U)) (ds := [6]) (bl 7 0) (by kernel_rfl) rfl (by kernel_rfl) ⟨zy q 0, zy q 1, zy q 2, zy q 3, zy q 4, zy q 5⟩ (fun hHeld => ?_)
     generalize w76.drew = w77 at z y u A q HI0 HK HB hHeld ⊢
     refine pure_ (i := 0) (N := some 63) (v := ?_) (a' := ?_) (bl 7 1) rfl rfl (by kernel_rfl) (fun _ _ _ h => h) (Or.inl ⟨by rfl, ?_⟩) ?_ ?_
     rotate_left
     · intro w'
       go_simp
       with_reducible rfl
     rotate_left
     · simp only [Act.put, zq1, zq2, zq3, i64_w, i32_w]
       rfl
     refine pure_ (i := 2) (N := some 65) (v := ?_) (a' := ?_) (bl 7 5) rfl rfl (by kernel_rfl) (fun _ _ _ h => h) (Or.inl ⟨by rfl, ?_⟩) ?_ ?_
     rotate_left
     · intro w'
       go_simp
       with_reducible rfl
     rotate_left
     · simp only [Act.put, zq1, zq2, zq3, i64_w, i32_w]
       rfl
     refine take_ (i := 1) (N := some 64) (v := ?_) (a' := ?_) (bl 7 7) rfl rfl (by kernel_rfl) (fun _ _ _ h => h) (Or.inl ⟨by rfl, ?_⟩) hHeld ?_ ?_
     rotate_left
     · rintro w' ⟨s0, s1, s2, s3, s4, s5⟩
       go_simp
       with_reducible rfl
     rotate_left
     · simp only [Act.put, zq1, zq2, zq3, i64_w, i32_w]
       rfl
     refine one_ (i := 3) (N := some 66) (bl 7 15) rfl rfl (by kernel_rfl) (by decide) (fun K hK => ?_)
     refine Kd.R_lit_step (Kd.int .i64) _ 3 ?hg (N := 66) ?hd (xs := ([4294967296, (-4294967296), 4294967297] : List Int)) (inner := [.int .i64 4294967296, .int .i64 (-4294967296), .int .i64 4294967297]) (ok := fun _ => True) (okp := fun _ => True) ?hr ?hp (fun _ hk => hk) trivial (Below.refl _ _) (Nat.le_refl _) (by simp) ?_; (case hd => rfl); (case hg => rfl); (case hr => first | (go_simp; done) | (go_simp; rfl)); (case hp => exact (Reps.one (show Kd.M (Kd.int .i64) _ _ _ 4294967296 [.int .i64 4294967296] from rfl) (Reps.one (show Kd.M (Kd.int .i64) _ _ _ (-4294967296) [.int .i64 (-4294967296)] from rfl) (Reps.one (show Kd.M (Kd.int .i64) _ _ _ 4294967297 [.int .i64 4294967297] from rfl) (Reps.none _ _)))))
     intro v485 w78 O1 hb hg_ hnew_
     clear hg_ hnew_
     (first | rw [← Ny484.out] at O1 | (simp only [Int.reduceToNat] at O1; rw [← Ny484.out] at O1))
     have b0 := zK (Kd.R_elder' (zkR z) (Kd.R_base O1) hb)
     have c0 := zK (Kd.Q_elder' (zkQ y) (Kd.R_base O1) hb)
     have d0 := zK (Kd.R_elder' (zkR u) (Kd.R_base O1) hb)
     have e0 := zK (Kd.R_lower (Kd.R_new' (Kd.R_new' (Kd.R_new' O1 (Kd.R_lt (zkR z))) (Kd.Q_lt (zkQ y))) (Kd.R_lt (zkR u))) (keep_size (w := w) (g := g) (row := none) (ww14b)))
     have j0 := z7 A hb
     have m0 := z7 q hb
     have n0 := zK (IsS94.below (ww14a) hb)
     have o0 := zK (KeepBut.trans (ww14b) (KeepBut.of_below hb g none) (.inl rfl))
     have S0 := zK (zp (ww14c) hb)
     revert b0 c0 d0 e0 j0 m0 n0 o0 S0
     clear z y u A q HI0 HK HB
     intro z y u i1 A q HI0 HK HB
     clear hb O1
     obtain ⟨j3, l3, T5⟩ := Kd.R_slice i1.out
     (first | subst T5 | (injection T5 with f1_ f2_ f3_; have f4_ := f1_.symm; have f5_ := f3_.symm; clear f1_ f2_ f3_; subst f4_; subst f5_))
     refine hK.out _ _ ⟨zy q 0, zy q 1, zy q 2, zy q 3, zy q 4, zy q 5⟩ (fun hHeld => ?_)
     clear hK K
     refine zU 66 ?_
     refine one_ (i := 4) (N := some 67) (bl 7 31) rfl rfl (by kernel_rfl) (by decide) (fun K hK => ?_)
     refine goes_ Try.func77 (by kernel_rfl) rfl #[.pointer (some ⟨g, 0, none⟩), .slice j3 N1.length l3] (by rfl) rfl rfl zL ?_
     with_reducible refine (spec_l1PickInt.calls g L A0 B0 _ _ N1 e1 D3 E3 w0 _ ?side1 ?side2 ?side3 ?side4 ?side5 A73.out).mono ?_
     (case side1 => exact ww14a)
     (case side2 => exact ww14c)
     (case side3 => exact zC (Kd.R_reads' i1.out).2.2)
     (case side4 => exact (Kd.R_reads' i1.out).2.1)
     (case side5 => exact far_slice (IsS94.own_ne HI0.out i1.out (by decide)))
     rintro e a2 ⟨rfl, hi, hb, hk⟩
     refine ⟨_, rfl, ?_⟩
     have b0 := zK (Kd.R_mono (Kd.R_keep (IsS94.apart (show IsS94 w0 _ g L A0 B0 from ww14a) (zkR z) (by decide)) hk (fun _ h => h.2)) (fun _ h => h.1))
     have c0 := zK (Kd.Q_mono (Kd.Q_keep (IsS94.apartQ (show IsS94 w0 _ g L A0 B0 from ww14a) (zkQ y) (by decide)) hk (fun _ h => h.2)) (fun _ h => h.1))
     have d0 := zK (Kd.R_mono (Kd.R_keep (IsS94.apart (show IsS94 w0 _ g L A0 B0 from ww14a) (zkR u) (by decide)) hk (fun _ h => h.2)) (fun _ h => h.1))
     have e0 := zK (KeepBut.blk hk (g' := t0) (o := .cells #[.slice none 0 0, .slice none 0 0, .slice none 0 0, .int .i64 0, .int .i64 0, .int .i64 0] 30 (0, 0)) (zM A) x0.out (by simp))
     have j0 := zK (KeepBut.blk hk (g' := T) (o := .cells #[u450000, u450001, u450002, .int .i64 a0, .int .i64 ji5, .int .i64 U] 30 (0, 0)) (zM q) y0.out (by simp))
     have m0 := zK (Kd.R_mono (Kd.R_keep (IsS94.apart (show IsS94 w0 _ g L A0 B0 from ww14a) (zkR i1) (by decide)) hk (fun _ h => h.2)) (fun _ h => h.1))
     have n0 := zK (KeepBut.trans (ww14b) hk (.inl rfl))
     have o0 := zK (hb)
     have S0 := zK (hi)
     revert b0 c0 d0 e0 j0 m0 n0 o0 S0
     clear z y u A q i1 HK HB HI0
     intro z y u A q i1 HK HB HI0
     (try clear hb)
     (try clear hb2)
     (try clear hk)
     (try clear hi)
     have U5 : 0 ≤ (0 : Int) := (by omega)
     have V5 : (0 : Int) < ((I.length : Int) : Int) := z3
     have qi75 : (0 < I.length) = True := eq_true (by omega)
     obtain ⟨go75, oo75, L2, X5, a6, gl75, cl75, HG75⟩ := Kd.Q_form y.out (by omega)
     (first | cases X5 | (injection X5 with ea_ en_ ec_; (first | subst ea_ | (injection ea_ with ea_; subst ea_)); subst ec_; clear en_))
     have GB75 := zK a6
     have GG75 := zK HG75
     clear a6 gl75 HG75
     obtain ⟨S3, hf75_0⟩ := Kd.Q_cell 0 y.out (0 : Int) U5 V5
     (try rw [show ((0 : Int)).toNat = 0 from rfl] at S3)
     (try simp only [Nat.reduceMul, Nat.zero_mul, Nat.zero_add, Nat.add_zero, Nat.reduceAdd] at S3)
     (try rw [show ((0 : Int)).toNat = 0 from rfl] at hf75_0)
     (try simp only [Nat.reduceMul, Nat.zero_mul, Nat.zero_add, Nat.add_zero, Nat.reduceAdd] at hf75_0)
     replace U5 := eq_true U5
     replace V5 := eq_true V5
     have HN0_go75 := zK (show g ≠ go75 from by have h_ := IsS94.own_neQ HI0.out y.out (by decide); intro e_; exact h_ (by rw [e_]; rfl))
     have HP82 := (Kd.Q_putg y.out (0 : Int) (by omega) (by have h_ : (0 : Int) < ((I.length : Int) : Int) := z3; first | exact h_ | (have e_ := (Kd.Q_reads' y.out).1; omega) | simpa using h_) e1).1
     rw [← Ny490.out] at HP82
     have HQ82 := zK HP82
     clear HP82
     refine hK.out _ _ ⟨zy q 0, zy q 1, zy q 2, zy q 3, zy q 4, zy q 5⟩ (fun hHeld => ?_)
     clear hK K
     refine zU 67 ?_
     refine pure_ (i := 5) (N := some 68) (v := ?_) (a' := ?_) (bl 7 63) rfl rfl (by kernel_rfl) (fun _ _ _ h => h) (Or.inl ⟨by rfl, ?_⟩) ?_ ?_
     rotate_left
     · intro w'
       go_simp
       with_reducible rfl
     rotate_left
     · simp only [Act.put, zq1, zq2, zq3, i64_w, i32_w]
       rfl
     refine last_ (i := 6) (N := none) (bl 7 127) rfl rfl (by kernel_rfl) (by decide) (fun K hK => ?_)
     refine skip_ (w1 := ?_) (by rfl) rfl ?_ ?_
     rotate_left
     · go_simp
       rfl
     refine hK.out _ _ ?_
     clear hK K
     refine done_ (by kernel_rfl) ?_
     have b0 : Aside0 (Kd.R (Kd.int .i64) 3 (a2.setCell ⟨go75, oo75 + (0 : Int).toNat, none⟩ (.int .i64 e1)) w.heap.size (fun k_ => some k_ ≠ (.slice (some ⟨go75, oo75, none⟩) I.length L2 : Value).ownBlock ∧ some k_ ≠ (u450002 : Value).ownBlock ∧ some k_ ≠ (.slice j3 N1.length l3 : Value).ownBlock) u450000 O) := ⟨Kd.R_mono (zlR (Kd.R_mono z.out (fun k_ hk => (⟨hk, fun e_ => hk.1.1 (by rw [e_]; rfl)⟩ : _ ∧ k_ ≠ go75)))) (fun _ hk => ⟨hk.1.1.1, ⟨hk.1.1.2, hk.1.2⟩⟩)⟩
     have c0 : Aside0 (Kd.Q (Kd.int .i64) 3 (a2.setCell ⟨go75, oo75 + (0 : Int).toNat, none⟩ (.int .i64 e1)) w.heap.size (fun k_ => some k_ ≠ (u450000 : Value).ownBlock ∧ some k_ ≠ (u450002 : Value).ownBlock ∧ some k_ ≠ (.slice j3 N1.length l3 : Value).ownBlock) (.slice (some ⟨go75, oo75, none⟩) I.length L2) S5) := ⟨Kd.Q_mono (zlQ HQ82.out) (fun _ hk => ⟨hk.1.1, ⟨hk.1.2, hk.2⟩⟩)⟩
     have d0 : Aside0 (Kd.R (Kd.int .i64) 3 (a2.setCell ⟨go75, oo75 + (0 : Int).toNat, none⟩ (.int .i64 e1)) w.heap.size (fun k_ => some k_ ≠ (u450000 : Value).ownBlock ∧ some k_ ≠ (.slice (some ⟨go75, oo75, none⟩) I.length L2 : Value).ownBlock ∧ some k_ ≠ (.slice j3 N1.length l3 : Value).ownBlock) u450002 J) := ⟨Kd.R_mono (zlR (Kd.R_mono u.out (fun k_ hk => (⟨hk, fun e_ => hk.1.2 (by rw [e_]; rfl)⟩ : _ ∧ k_ ≠ go75)))) (fun _ hk => ⟨hk.1.1.1, ⟨hk.1.1.2, hk.1.2⟩⟩)⟩
     have e0 : Aside0 (Kd.R (Kd.int .i64) 3 (a2.setCell ⟨go75, oo75 + (0 : Int).toNat, none⟩ (.int .i64 e1)) w.heap.size (fun k_ => some k_ ≠ (u450000 : Value).ownBlock ∧ some k_ ≠ (.slice (some ⟨go75, oo75, none⟩) I.length L2 : Value).ownBlock ∧ some k_ ≠ (u450002 : Value).ownBlock) (.slice j3 N1.length l3) N1) := ⟨Kd.R_mono (zlR (Kd.R_mono i1.out (fun k_ hk => (⟨hk, fun e_ => hk.1.2 (by rw [e_]; rfl)⟩ : _ ∧ k_ ≠ go75)))) (fun _ hk => ⟨hk.1.1.1.2, ⟨hk.1.1.2, hk.1.2⟩⟩)⟩
     have j0 : Aside0 ((a2.setCell ⟨go75, oo75 + (0 : Int).toNat, none⟩ (.int .i64 e1)).heap[t0]? = some (.cells #[.slice none 0 0, .slice none 0 0, .slice none 0 0, .int .i64 0, .int .i64 0, .int .i64 0] 30 (0, 0))) := ⟨by (with_reducible repeat (first | refine zn ?_ _ | refine zd ?_ | refine za ?_ _)); refine blk_far ?_ (by have h_ := Kd.Q_ne y.out A.out (by decide); intro e_; exact h_ (by rw [e_]; rfl)) _; (with_reducible repeat (first | refine zn ?_ _ | refine zd ?_ | refine za ?_ _)); exact A.out⟩
     have m0 : Aside0 ((a2.setCell ⟨go75, oo75 + (0 : Int).toNat, none⟩ (.int .i64 e1)).heap[T]? = some (.cells #[u450000, .slice (some ⟨go75, oo75, none⟩) I.length L2, u450002, .int .i64 a0, .int .i64 ji5, .int .i64 U] 30 (0, 0))) := ⟨by (with_reducible repeat (first | refine zn ?_ _ | refine zd ?_ | refine za ?_ _)); refine blk_far ?_ (by have h_ := Kd.Q_ne y.out q.out (by decide); intro e_; exact h_ (by rw [e_]; rfl)) _; (with_reducible repeat (first | refine zn ?_ _ | refine zd ?_ | refine za ?_ _)); exact q.out⟩
     have n0 : Aside0 (IsS94 w0 (a2.setCell ⟨go75, oo75 + (0 : Int).toNat, none⟩ (.int .i64 e1)) g L D3 E3) := ⟨by repeat (first | (with_reducible first | exact HI0.out | apply IsS94.alloc | apply IsS94.drewN | apply IsS94.drew | apply IsS94.set_1 | apply IsS94.set_2 | refine IsS94.far ?_ HN0_go75.out _ | refine IsS94.far ?_ D.out _ | refine IsS94.far ?_ E.out _) | exact HI0.out)⟩
     have o0 : Aside0 (KeepBut w (a2.setCell ⟨go75, oo75 + (0 : Int).toNat, none⟩ (.int .i64 e1)) g none) := ⟨by repeat (first | (with_reducible first | exact HK.out | apply KeepBut.set_ | apply keep_drewN | apply keep_drew | apply keep_alloc | refine keep_far ?_ GB75.out _ | refine keep_far ?_ X.out _ | refine keep_far ?_ f0.out _) | exact HK.out)⟩
     have S0 : Aside0 (Below w0.heap.size w0 (a2.setCell ⟨go75, oo75 + (0 : Int).toNat, none⟩ (.int .i64 e1))) := ⟨by repeat (first | (with_reducible first | exact HB.out | apply zb | apply zw | apply ze | refine zs ?_ (Nat.le_trans HL.out GB75.out) | refine zs ?_ (IsS94.ge HI0.out) | refine zs ?_ p0.out | refine zs ?_ q0.out) | exact HB.out)⟩
     (try clear z)
     (try clear y)
     (try clear u)
     (try clear i1)
     (try clear A)
     (try clear q)
     (try clear HI0)
     (try clear HK)
     (try clear HB)
     (try simp only [show ((0 : Int)).toNat = 0 from rfl, Nat.add_zero] at b0)
     (try simp only [show ((0 : Int)).toNat = 0 from rfl, Nat.add_zero] at c0)
     (try simp only [show ((0 : Int)).toNat = 0 from rfl, Nat.add_zero] at d0)
     (try simp only [show ((0 : Int)).toNat = 0 from rfl, Nat.add_zero] at e0)
     (try simp only [show ((0 : Int)).toNat = 0 from rfl, Nat.add_zero] at j0)
     (try simp only [show ((0 : Int)).toNat = 0 from rfl, Nat.add_zero] at m0)
     (try simp only [show ((0 : Int)).toNat = 0 from rfl, Nat.add_zero] at n0)
     (try simp only [show ((0 : Int)).toNat = 0 from rfl, Nat.add_zero] at o0)
     (try simp only [show ((0 : Int)).toNat = 0 from rfl, Nat.add_zero] at S0)
     generalize (a2.setCell ⟨go75, oo75, none⟩ (.int .i64 e1)) = w83 at b0 c0 d0 e0 j0 m0 n0 o0 S0 ⊢
     revert b0 c0 d0 e0 j0 m0 n0 o0 S0
     intro z y u i1 A q HI0 HK HB
     have b1d := G0.out
     have b1e := F0.out
     have b1f := y0.out
     have b1g := E.out
     obtain ⟨a6n, a6o, a6p, a6q, a6s, a6t, a6u, a6x, a6y, a6z, a7a, a7b⟩ := zc6 q
     obtain ⟨s9, t9, x9⟩ := Kd.R_slice z.out
     subst x9
     have b1j := x0.out
     have b1l := D.out
     obtain ⟨a7c, a7d, a7e, a7f, a7g, a7j, a7l, a7m, a7n, a7o, a7p, a7q⟩ := zc6 A
     obtain ⟨y9, A9, B9⟩ := Kd.R_slice u.out
     subst B9
     try go_wp2
     refine bodyPost_ret (results_cell_row rfl _ _ t0 30 #[.slice s9 O.length t9, .slice (some ⟨go75, oo75, none⟩) I.length L2, .slice y9 J.length A9, .int .i64 a0, .int .i64 ji5, .int .i64 U] (0, 0) _ rfl (zW A) Try.underlying30 rfl (by kernel_rfl)) rfl ?_
     exact ⟨_, _, _, by first | rfl | (simp [errW_none, errW_some] <;> rfl) | (simp only [← hji3, ← hji5]; first | rfl | (simp [errW_none, errW_some] <;> rfl)) | (simp [*, errW_none, errW_some] <;> rfl), Kd.R_mono (zlR (Kd.R_types z.out A.out (by decide))) (fun _ hk => ⟨hk.1.1, hk.1.2.1⟩), Kd.Q_mono (zlQ (Kd.Q_types y.out A.out (by decide))) (fun _ hk => ⟨hk.1.1, hk.1.2.1⟩), Kd.R_mono (zlR (Kd.R_types u.out A.out (by decide))) (fun _ hk => ⟨hk.1.1, hk.1.2.1⟩), ww14a, ww14c, ww14b⟩
   rw [if_neg i3] at H
   have R6 := beq_eq_false_iff_ne.mpr i3
   have S6 := bne_iff_ne.mpr i3
   by_cases m3 : X0 = 2
   · as_aux_lemma =>
     rw [if_pos m3] at H
     have T6 := beq_iff_eq.mpr m3
     have U6 := bne_eq_false_iff_eq.mpr m3
     clear m3
     obtain ⟨R1, q2⟩ : ∃ y_ : List Int, y_ = (([17179869184, 17179869185, (-1)] : List Int)) := ⟨_, rfl⟩
     replace H : ((spec_l1PickInt.f L A0 B0 R1).bind fun y1 => (if 0 < (J.length : Int) then (some (O, I, (J.set (0 : Int).toNat y1.1), a0, ji5, U, y1.2.1, y1.2.2)) else (none))) = some (r1, r2, r3, r4, r5, r6, r7, r8) := by first | (rw [q2]; with_reducible exact H) | (have D0 := (Option.bind_some _ _).symm.trans H; rw [q2]; with_reducible exact D0) | (have D0 := (Option.bind_some _ _).symm.trans H; with_reducible exact D0) | with_reducible exact H | (rw [q2]; exact H) | exact H
     have Ny491 := zK q2
     clear q2
     replace H := z6 H
     obtain ⟨⟨f1, F3, G3⟩, b6, H⟩ := H
     replace H : (if 0 < (J.length : Int) then (some (O, I, (J.set (0 : Int).toNat f1), a0, ji5, U, F3, G3)) else (none)) = some (r1, r2, r3, r4, r5, r6, r7, r8) := H
     have A92 := zK b6
     clear b6
     by_cases A4 : 0 < (J.length : Int)
     rotate_left
     · rw [if_neg A4] at H
       exact absurd H (by simp)
     rw [if_pos A4] at H
     have b1m := z1 A4
     have b1n : decide (0 < J.length) = true := z1 (by omega)
     clear A4
     obtain ⟨d6, t2⟩ : ∃ y_ : List Int, y_ = (J.set (0 : Int).toNat f1) := ⟨_, rfl⟩
     replace H : (some (O, I, d6, a0, ji5, U, F3, G3)) = some (r1, r2, r3, r4, r5, r6, r7, r8) := by first | (rw [t2]; with_reducible exact H) | (have D0 := (Option.bind_some _ _).symm.trans H; rw [t2]; with_reducible exact D0) | (have D0 := (Option.bind_some _ _).symm.trans H; with_reducible exact D0) | with_reducible exact H | (rw [t2]; exact H) | exact H
     have Ny497 := zK t2
     clear t2
     simp only [Option.some.injEq, Prod.mk.injEq] at H
     obtain ⟨rfl, rfl, rfl, rfl, rfl, rfl, rfl, rfl⟩ := H
     try go_wp2_with (first | ((with_reducible refine gc 60 rfl ?_); refine zF 52 Try.func60 #[.pointer (some ⟨g, 0, none⟩), .int .i64 6] rfl zL ?_; (with_reducible refine (spec_l1Below.calls g L g0 i0 6 X0 A0 B0 w0 _ ?side1 ?side2 d3.out).mono ?_); (case side1 => exact ww14a); (case side2 => exact ww14c); rintro e w95 ⟨rfl, hi, hb, hk⟩; refine ⟨_, rfl, ?_⟩; have b0 := zK (Kd.R_mono (Kd.R_keep (IsS94.apart (show IsS94 w0 _ g L g0 i0 from ww14a) (zkR z) (by decide)) hk (fun _ h => h.2)) (fun _ h => h.1)); have c0 := zK (Kd.Q_mono (Kd.Q_keep (IsS94.apartQ (show IsS94 w0 _ g L g0 i0 from ww14a) (zkQ y) (by decide)) hk (fun _ h => h.2)) (fun _ h => h.1)); have d0 := zK (Kd.R_mono (Kd.R_keep (IsS94.apart (show IsS94 w0 _ g L g0 i0 from ww14a) (zkR u) (by decide)) hk (fun _ h => h.2)) (fun _ h => h.1)); have e0 := zK (KeepBut.blk hk (g' := t0) (o := .cells #[.slice none 0 0, .slice none 0 0, .slice none 0 0, .int .i64 0, .int .i64 0, .int .i64 0] 30 (0, 0)) (zM A) x0.out (by simp)); have j0 := zK (KeepBut.blk hk (g' := T) (o := .cells #[u450000, u450001, u450002, .int .i64 a0, .int .i64 ji5, .int .i64 U] 30 (0, 0)) (zM q) y0.out (by simp)); have m0 := zK (KeepBut.trans (ww14b) hk (.inl rfl)); have n0 := zK (hb); have o0 := zK (hi); revert b0 c0 d0 e0 j0 m0 n0 o0; clear z y u A q HK HB HI0; intro z y u A q HK HB HI0))
     have b0 := zK (Kd.R_drew z.out)
     have c0 := zK (Kd.Q_drew y.out)
     have d0 := zK (Kd.R_drew u.out)
     have e0 := zK (zd A.out)
     have j0 := zK (zd q.out)
     have m0 := zK (IsS94.drew HI0.out)
     have n0 := zK (keep_drew HK.out)
     have o0 := zK (ze HB.out)
     revert b0 c0 d0 e0 j0 m0 n0 o0
     clear z y u A q HI0 HK HB
     intro z y u A q HI0 HK HB
     refine start_ (n := 7) (S := fun w' => w'.cell? ⟨T, 0, none⟩ = some (u450000) ∧ w'.cell? ⟨T, 1, none⟩ = some (u450001) ∧ w'.cell? ⟨T, 2, none⟩ = some (u450002) ∧ w'.cell? ⟨T, 3, none⟩ = some (.int .i64 a0) ∧ w'.cell? ⟨T, 4, none⟩ = some (.int .i64 ji5) ∧ w'.cell? ⟨T, 5, none⟩ = some (.int .i64 U)) (ds := [6]) (bl 7 0) (by kernel_rfl) rfl (by kernel_rfl) ⟨zy q 0, zy q 1, zy q 2, zy q 3, zy q 4, zy q 5⟩ (fun hHeld => ?_)
     generalize w95.drew = w96 at z y u A q HI0 HK HB hHeld ⊢
     refine pure_ (i := 0) (N := some 71) (v := ?_) (a' := ?_) (bl 7 1) rfl rfl (by kernel_rfl) (fun _ _ _ h => h) (Or.inl ⟨by rfl, ?_⟩) ?_ ?_
     rotate_left
     · intro w'
       go_simp
       with_reducible rfl
     rotate_left
     · simp only [Act.put, zq1, zq2, zq3, i64_w, i32_w]
       rfl
     refine pure_ (i := 2) (N := some 73) (v := ?_) (a' := ?_) (bl 7 5) rfl rfl (by kernel_rfl) (fun _ _ _ h => h) (Or.inl ⟨by rfl, ?_⟩) ?_ ?_
     rotate_left
     · intro w'
       go_simp
       with_reducible rfl
     rotate_left
     · simp only [Act.put, zq1, zq2, zq3, i64_w, i32_w]
       rfl
     refine take_ (i := 1) (N := some 72) (v := ?_) (a' := ?_) (bl 7 7) rfl rfl (by kernel_rfl) (fun _ _ _ h => h) (Or.inl ⟨by rfl, ?_⟩) hHeld ?_ ?_
     rotate_left
     · rintro w' ⟨s0, s1, s2, s3, s4, s5⟩
       go_simp
       with_reducible rfl
     rotate_left
     · simp only [Act.put, zq1, zq2, zq3, i64_w, i32_w]
       rfl
     refine one_ (i := 3) (N := some 74) (bl 7 15) rfl rfl (by kernel_rfl) (by decide) (fun K hK => ?_)
     refine Kd.R_lit_step (Kd.int .i64) _ 3 ?hg (N := 74) ?hd (xs := ([17179869184, 17179869185, (-1)] : List Int)) (inner := [.int .i64 17179869184, .int .i64 17179869185, .int .i64 (-1)]) (ok := fun _ => True) (okp := fun _ => True) ?hr ?hp (fun _ hk => hk) trivial (Below.refl _ _) (Nat.le_refl _) (by simp) ?_; (case hd => rfl); (case hg => rfl); (case hr => first | (go_simp; done) | (go_simp; rfl)); (case hp => exact (Reps.one (show Kd.M (Kd.int .i64) _ _ _ 17179869184 [.int .i64 17179869184] from rfl) (Reps.one (show Kd.M (Kd.int .i64) _ _ _ 17179869185 [.int .i64 17179869185] from rfl) (Reps.one (show Kd.M (Kd.int .i64) _ _ _ (-1) [.int .i64 (-1)] from rfl) (Reps.none _ _)))))
     intro v492 w97 S1 hb hg_ hnew_
     clear hg_ hnew_
     (first | rw [← Ny491.out] at S1 | (simp only [Int.reduceToNat] at S1; rw [← Ny491.out] at S1))
     have b0 := zK (Kd.R_elder' (zkR z) (Kd.R_base S1) hb)
     have c0 := zK (Kd.Q_elder' (zkQ y) (Kd.R_base S1) hb)
     have d0 := zK (Kd.R_elder' (zkR u) (Kd.R_base S1) hb)
     have e0 := zK (Kd.R_lower (Kd.R_new' (Kd.R_new' (Kd.R_new' S1 (Kd.R_lt (zkR z))) (Kd.Q_lt (zkQ y))) (Kd.R_lt (zkR u))) (keep_size (w := w) (g := g) (row := none) (ww14b)))
     have j0 := z7 A hb
     have m0 := z7 q hb
     have n0 := zK (IsS94.below (ww14a) hb)
     have o0 := zK (KeepBut.trans (ww14b) (KeepBut.of_below hb g none) (.inl rfl))
     have S0 := zK (zp (ww14c) hb)
     revert b0 c0 d0 e0 j0 m0 n0 o0 S0
     clear z y u A q HI0 HK HB
     intro z y u l1 A q HI0 HK HB
     clear hb S1
     obtain ⟨n3, o3, e6⟩ := Kd.R_slice l1.out
     (first | subst e6 | (injection e6 with f1_ f2_ f3_; have f4_ := f1_.symm; have f5_ := f3_.symm; clear f1_ f2_ f3_; subst f4_; subst f5_))
     refine hK.out _ _ ⟨zy q 0, zy q 1, zy q 2, zy q 3, zy q 4, zy q 5⟩ (fun hHeld => ?_)
     clear hK K
     refine zU 74 ?_
     refine one_ (i := 4) (N := some 75) (bl 7 31) rfl rfl (by kernel_rfl) (by decide) (fun K hK => ?_)
     refine goes_ Try.func77 (by kernel_rfl) rfl #[.pointer (some ⟨g, 0, none⟩), .slice n3 R1.length o3] (by rfl) rfl rfl zL ?_
     with_reducible refine (spec_l1PickInt.calls g L A0 B0 _ _ R1 f1 F3 G3 w0 _ ?side1 ?side2 ?side3 ?side4 ?side5 A92.out).mono ?_
     (case side1 => exact ww14a)
     (case side2 => exact ww14c)
     (case side3 => exact zC (Kd.R_reads' l1.out).2.2)
     (case side4 => exact (Kd.R_reads' l1.out).2.1)
     (case side5 => exact far_slice (IsS94.own_ne HI0.out l1.out (by decide)))
     rintro e p1 ⟨rfl, hi, hb, hk⟩
     refine ⟨_, rfl, ?_⟩
     have b0 := zK (Kd.R_mono (Kd.R_keep (IsS94.apart (show IsS94 w0 _ g L A0 B0 from ww14a) (zkR z) (by decide)) hk (fun _ h => h.2)) (fun _ h => h.1))
     have c0 := zK (Kd.Q_mono (Kd.Q_keep (IsS94.apartQ (show IsS94 w0 _ g L A0 B0 from ww14a) (zkQ y) (by decide)) hk (fun _ h => h.2)) (fun _ h => h.1))
     have d0 := zK (Kd.R_mono (Kd.R_keep (IsS94.apart (show IsS94 w0 _ g L A0 B0 from ww14a) (zkR u) (by decide)) hk (fun _ h => h.2)) (fun _ h => h.1))
     have e0 := zK (KeepBut.blk hk (g' := t0) (o := .cells #[.slice none 0 0, .slice none 0 0, .slice none 0 0, .int .i64 0, .int .i64 0, .int .i64 0] 30 (0, 0)) (zM A) x0.out (by simp))
     have j0 := zK (KeepBut.blk hk (g' := T) (o := .cells #[u450000, u450001, u450002, .int .i64 a0, .int .i64 ji5, .int .i64 U] 30 (0, 0)) (zM q) y0.out (by simp))
     have m0 := zK (Kd.R_mono (Kd.R_keep (IsS94.apart (show IsS94 w0 _ g L A0 B0 from ww14a) (zkR l1) (by decide)) hk (fun _ h => h.2)) (fun _ h => h.1))
     have n0 := zK (KeepBut.trans (ww14b) hk (.inl rfl))
     have o0 := zK (hb)
     have S0 := zK (hi)
     revert b0 c0 d0 e0 j0 m0 n0 o0 S0
     clear z y u A q l1 HK HB HI0
     intro z y u A q l1 HK HB HI0
     (try clear hb)
     (try clear hb2)
     (try clear hk)
     (try clear hi)
     have f6 : 0 ≤ (0 : Int) := (by omega)
     have g6 : (0 : Int) < ((J.length : Int) : Int) := z3
     have qi94 : (0 < J.length) = True := eq_true (by omega)
     obtain ⟨go94, M2, i6, j6, gl94, cl94, HG94⟩ := Kd.R_form u.out (by omega)
     (first | cases i6 | (injection i6 with ea_ en_ ec_; (first | subst ea_ | (injection ea_ with ea_; subst ea_)); subst ec_; clear en_))
     have GB94 := zK j6
     have GG94 := zK HG94
     clear j6 gl94 HG94
     obtain ⟨T3, hf94_0⟩ := Kd.R_celln 0 u.out (0 : Int) f6 g6
     (try rw [show ((0 : Int)).toNat = 0 from rfl] at T3)
     (try simp only [Nat.reduceMul, Nat.zero_mul, Nat.zero_add, Nat.add_zero, Nat.reduceAdd] at T3)
     (try rw [show ((0 : Int)).toNat = 0 from rfl] at hf94_0)
     (try simp only [Nat.reduceMul, Nat.zero_mul, Nat.zero_add, Nat.add_zero, Nat.reduceAdd] at hf94_0)
     replace f6 := eq_true f6
     replace g6 := eq_true g6
     have HN0_go94 := zK (show g ≠ go94 from by have h_ := IsS94.own_ne HI0.out u.out (by decide); intro e_; exact h_ (by rw [e_]; rfl))
     have HP101 := Kd.R_putn u.out (0 : Int) f1
     rw [← Ny497.out] at HP101
     have HQ101 := zK HP101
     clear HP101
     refine hK.out _ _ ⟨zy q 0, zy q 1, zy q 2, zy q 3, zy q 4, zy q 5⟩ (fun hHeld => ?_)
     clear hK K
     refine zU 75 ?_
     refine pure_ (i := 5) (N := some 76) (v := ?_) (a' := ?_) (bl 7 63) rfl rfl (by kernel_rfl) (fun _ _ _ h => h) (Or.inl ⟨by rfl, ?_⟩) ?_ ?_
     rotate_left
     · intro w'
       go_simp
       with_reducible rfl
     rotate_left
     · simp only [Act.put, zq1, zq2, zq3, i64_w, i32_w]
       rfl
     refine last_ (i := 6) (N := none) (bl 7 127) rfl rfl (by kernel_rfl) (by decide) (fun K hK => ?_)
     refine skip_ (w1 := ?_) (by rfl) rfl ?_ ?_
     rotate_left
     · go_simp
       rfl
     refine hK.out _ _ ?_
     clear hK K
     refine done_ (by kernel_rfl) ?_
     have b0 : Aside0 (Kd.R (Kd.int .i64) 3 (p1.setCell ⟨go94, 0, none⟩ (.int .i64 f1)) w.heap.size (fun k_ => some k_ ≠ (u450001 : Value).ownBlock ∧ some k_ ≠ (.slice (some ⟨go94, 0, none⟩) J.length M2 : Value).ownBlock ∧ some k_ ≠ (.slice n3 R1.length o3 : Value).ownBlock) u450000 O) := ⟨Kd.R_mono (zlR (Kd.R_mono z.out (fun k_ hk => (⟨hk, fun e_ => hk.1.2 (by rw [e_]; rfl)⟩ : _ ∧ k_ ≠ go94)))) (fun _ hk => ⟨hk.1.1.1, ⟨hk.1.1.2, hk.1.2⟩⟩)⟩
     have c0 : Aside0 (Kd.Q (Kd.int .i64) 3 (p1.setCell ⟨go94, 0, none⟩ (.int .i64 f1)) w.heap.size (fun k_ => some k_ ≠ (u450000 : Value).ownBlock ∧ some k_ ≠ (.slice (some ⟨go94, 0, none⟩) J.length M2 : Value).ownBlock ∧ some k_ ≠ (.slice n3 R1.length o3 : Value).ownBlock) u450001 I) := ⟨Kd.Q_mono (zlQ (Kd.Q_mono y.out (fun k_ hk => (⟨hk, fun e_ => hk.1.2 (by rw [e_]; rfl)⟩ : _ ∧ k_ ≠ go94)))) (fun _ hk => ⟨hk.1.1.1, ⟨hk.1.1.2, hk.1.2⟩⟩)⟩
     have d0 : Aside0 (Kd.R (Kd.int .i64) 3 (p1.setCell ⟨go94, 0, none⟩ (.int .i64 f1)) w.heap.size (fun k_ => some k_ ≠ (u450000 : Value).ownBlock ∧ some k_ ≠ (u450001 : Value).ownBlock ∧ some k_ ≠ (.slice n3 R1.length o3 : Value).ownBlock) (.slice (some ⟨go94, 0, none⟩) J.length M2) d6) := ⟨Kd.R_mono (zlR HQ101.out) (fun _ hk => ⟨hk.1.1, ⟨hk.1.2, hk.2⟩⟩)⟩
     have e0 : Aside0 (Kd.R (Kd.int .i64) 3 (p1.setCell ⟨go94, 0, none⟩ (.int .i64 f1)) w.heap.size (fun k_ => some k_ ≠ (u450000 : Value).ownBlock ∧ some k_ ≠ (u450001 : Value).ownBlock ∧ some k_ ≠ (.slice (some ⟨go94, 0, none⟩) J.length M2 : Value).ownBlock) (.slice n3 R1.length o3) R1) := ⟨Kd.R_mono (zlR (Kd.R_mono l1.out (fun k_ hk => (⟨hk, fun e_ => hk.2 (by rw [e_]; rfl)⟩ : _ ∧ k_ ≠ go94)))) (fun _ hk => ⟨hk.1.1.1.2, ⟨hk.1.1.2, hk.1.2⟩⟩)⟩
     have j0 : Aside0 ((p1.setCell ⟨go94, 0, none⟩ (.int .i64 f1)).heap[t0]? = some (.cells #[.slice none 0 0, .slice none 0 0, .slice none 0 0, .int .i64 0, .int .i64 0, .int .i64 0] 30 (0, 0))) := ⟨by (with_reducible repeat (first | refine zn ?_ _ | refine zd ?_ | refine za ?_ _)); refine blk_far ?_ (by have h_ := Kd.R_ne u.out A.out (by decide); intro e_; exact h_ (by rw [e_]; rfl)) _; (with_reducible repeat (first | refine zn ?_ _ | refine zd ?_ | refine za ?_ _)); exact A.out⟩
     have m0 : Aside0 ((p1.setCell ⟨go94, 0, none⟩ (.int .i64 f1)).heap[T]? = some (.cells #[u450000, u450001, .slice (some ⟨go94, 0, none⟩) J.length M2, .int .i64 a0, .int .i64 ji5, .int .i64 U] 30 (0, 0))) := ⟨by (with_reducible repeat (first | refine zn ?_ _ | refine zd ?_ | refine za ?_ _)); refine blk_far ?_ (by have h_ := Kd.R_ne u.out q.out (by decide); intro e_; exact h_ (by rw [e_]; rfl)) _; (with_reducible repeat (first | refine zn ?_ _ | refine zd ?_ | refine za ?_ _)); exact q.out⟩
     have n0 : Aside0 (IsS94 w0 (p1.setCell ⟨go94, 0, none⟩ (.int .i64 f1)) g L F3 G3) := ⟨by repeat (first | (with_reducible first | exact HI0.out | apply IsS94.alloc | apply IsS94.drewN | apply IsS94.drew | apply IsS94.set_1 | apply IsS94.set_2 | refine IsS94.far ?_ HN0_go94.out _ | refine IsS94.far ?_ D.out _ | refine IsS94.far ?_ E.out _) | exact HI0.out)⟩
     have o0 : Aside0 (KeepBut w (p1.setCell ⟨go94, 0, none⟩ (.int .i64 f1)) g none) := ⟨by repeat (first | (with_reducible first | exact HK.out | apply KeepBut.set_ | apply keep_drewN | apply keep_drew | apply keep_alloc | refine keep_far ?_ GB94.out _ | refine keep_far ?_ X.out _ | refine keep_far ?_ f0.out _) | exact HK.out)⟩
     have S0 : Aside0 (Below w0.heap.size w0 (p1.setCell ⟨go94, 0, none⟩ (.int .i64 f1))) := ⟨by repeat (first | (with_reducible first | exact HB.out | apply zb | apply zw | apply ze | refine zs ?_ (Nat.le_trans HL.out GB94.out) | refine zs ?_ (IsS94.ge HI0.out) | refine zs ?_ p0.out | refine zs ?_ q0.out) | exact HB.out)⟩
     (try clear z)
     (try clear y)
     (try clear u)
     (try clear l1)
     (try clear A)
     (try clear q)
     (try clear HI0)
     (try clear HK)
     (try clear HB)
     generalize (p1.setCell ⟨go94, 0, none⟩ (.int .i64 f1)) = b2g at b0 c0 d0 e0 j0 m0 n0 o0 S0 ⊢
     revert b0 c0 d0 e0 j0 m0 n0 o0 S0
     intro z y u l1 A q HI0 HK HB
     have a8q := G0.out
     have a8s := F0.out
     have a8t := y0.out
     have a8u := E.out
     obtain ⟨C9, D9, E9, F9, G9, I9, J9, L9, M9, N9, O9, R9⟩ := zc6 q
     obtain ⟨V6, X6, a7⟩ := Kd.R_slice z.out
     subst a7
     have a8x := x0.out
     have a8y := D.out
     obtain ⟨S9, T9, U9, V9, X9, a0a, a0b, a0c, a0d, a0e, a0f, a0g⟩ := zc6 A
     obtain ⟨b7, d7, e7, _⟩ := Kd.Q_slice y.out
     subst e7
     try go_wp2
     refine bodyPost_ret (results_cell_row rfl _ _ t0 30 #[.slice V6 O.length X6, .slice b7 I.length d7, .slice (some ⟨go94, 0, none⟩) J.length M2, .int .i64 a0, .int .i64 ji5, .int .i64 U] (0, 0) _ rfl (zW A) Try.underlying30 rfl (by kernel_rfl)) rfl ?_
     exact ⟨_, _, _, by first | rfl | (simp [errW_none, errW_some] <;> rfl) | (simp only [← hji3, ← hji5]; first | rfl | (simp [errW_none, errW_some] <;> rfl)) | (simp [*, errW_none, errW_some] <;> rfl), Kd.R_mono (zlR (Kd.R_types z.out A.out (by decide))) (fun _ hk => ⟨hk.1.1, hk.1.2.1⟩), Kd.Q_mono (zlQ (Kd.Q_types y.out A.out (by decide))) (fun _ hk => ⟨hk.1.1, hk.1.2.1⟩), Kd.R_mono (zlR (Kd.R_types u.out A.out (by decide))) (fun _ hk => ⟨hk.1.1, hk.1.2.1⟩), ww14a, ww14c, ww14b⟩
   rw [if_neg m3] at H
   have T6 := beq_eq_false_iff_ne.mpr m3
   have U6 := bne_iff_ne.mpr m3
   by_cases b2 : X0 = 3
   · as_aux_lemma =>
     rw [if_pos b2] at H
     have l6 := beq_iff_eq.mpr b2
     have m6 := bne_eq_false_iff_eq.mpr b2
     clear b2
     obtain ⟨i4, x2⟩ : ∃ y_ : List Int, y_ = (([3, 0, 131072] : List Int)) := ⟨_, rfl⟩
     replace H : ((spec_l1PickInt.f L A0 B0 i4).bind fun B1 => (some (O, I, J, a0, B1.1, U, B1.2.1, B1.2.2))) = some (r1, r2, r3, r4, r5, r6, r7, r8) := by first | (rw [x2]; with_reducible exact H) | (have D0 := (Option.bind_some _ _).symm.trans H; rw [x2]; with_reducible exact D0) | (have D0 := (Option.bind_some _ _).symm.trans H; with_reducible exact D0) | with_reducible exact H | (rw [x2]; exact H) | exact H
     have Ny498 := zK x2
     clear x2
     replace H := z6 H
     obtain ⟨⟨j4, n6, o6⟩, B4, H⟩ := H
     replace H : (some (O, I, J, a0, j4, U, n6, o6)) = some (r1, r2, r3, r4, r5, r6, r7, r8) := H
     have a0j := zK B4
     clear B4
     simp only [Option.some.injEq, Prod.mk.injEq] at H
     obtain ⟨rfl, rfl, rfl, rfl, rfl, rfl, rfl, rfl⟩ := H
     go_wp2_with (first | ((with_reducible refine gc 60 rfl ?_); refine zF 52 Try.func60 #[.pointer (some ⟨g, 0, none⟩), .int .i64 6] rfl zL ?_; (with_reducible refine (spec_l1Below.calls g L g0 i0 6 X0 A0 B0 w0 _ ?side1 ?side2 d3.out).mono ?_); (case side1 => exact ww14a); (case side2 => exact ww14c); rintro e b2j ⟨rfl, hi, hb, hk⟩; refine ⟨_, rfl, ?_⟩; have b0 := zK (Kd.R_mono (Kd.R_keep (IsS94.apart (show IsS94 w0 _ g L g0 i0 from ww14a) (zkR z) (by decide)) hk (fun _ h => h.2)) (fun _ h => h.1)); have c0 := zK (Kd.Q_mono (Kd.Q_keep (IsS94.apartQ (show IsS94 w0 _ g L g0 i0 from ww14a) (zkQ y) (by decide)) hk (fun _ h => h.2)) (fun _ h => h.1)); have d0 := zK (Kd.R_mono (Kd.R_keep (IsS94.apart (show IsS94 w0 _ g L g0 i0 from ww14a) (zkR u) (by decide)) hk (fun _ h => h.2)) (fun _ h => h.1)); have e0 := zK (KeepBut.blk hk (g' := t0) (o := .cells #[.slice none 0 0, .slice none 0 0, .slice none 0 0, .int .i64 0, .int .i64 0, .int .i64 0] 30 (0, 0)) (zM A) x0.out (by simp)); have j0 := zK (KeepBut.blk hk (g' := T) (o := .cells #[u450000, u450001, u450002, .int .i64 a0, .int .i64 ji5, .int .i64 U] 30 (0, 0)) (zM q) y0.out (by simp)); have m0 := zK (KeepBut.trans (ww14b) hk (.inl rfl)); have n0 := zK (hb); have o0 := zK (hi); revert b0 c0 d0 e0 j0 m0 n0 o0; clear z y u A q HK HB HI0; intro z y u A q HK HB HI0) | ((with_reducible refine gd 80 rfl ?_); (try (refine gate_guard (by rfl) ?_; dsimp only)); refine Kd.R_lit (Kd.int .i64) _ 3 ?hg (N := 80) ?hd (xs := ([3, 0, 131072] : List Int)) (inner := [.int .i64 3, .int .i64 0, .int .i64 131072]) (ok := fun _ => True) (okp := fun _ => True) ?hr ?hp (fun _ hk => hk) trivial (Below.refl _ _) (Nat.le_refl _) (by simp) ?_; (case hd => rfl); (case hg => rfl); (case hr => first | (go_simp; done) | (go_simp; rfl)); (case hp => exact (Reps.one (show Kd.M (Kd.int .i64) _ _ _ 3 [.int .i64 3] from rfl) (Reps.one (show Kd.M (Kd.int .i64) _ _ _ 0 [.int .i64 0] from rfl) (Reps.one (show Kd.M (Kd.int .i64) _ _ _ 131072 [.int .i64 131072] from rfl) (Reps.none _ _))))); intro v499 b2l n1 hb hg_ hnew_; clear hg_ hnew_; (first | rw [← Ny498.out] at n1 | (simp only [Int.reduceToNat] at n1; rw [← Ny498.out] at n1)); have b0 := zK (Kd.R_elder' (zkR z) (Kd.R_base n1) hb); have c0 := zK (Kd.Q_elder' (zkQ y) (Kd.R_base n1) hb); have d0 := zK (Kd.R_elder' (zkR u) (Kd.R_base n1) hb); have e0 := zK (Kd.R_lower (Kd.R_new' (Kd.R_new' (Kd.R_new' n1 (Kd.R_lt (zkR z))) (Kd.Q_lt (zkQ y))) (Kd.R_lt (zkR u))) (keep_size (w := w) (g := g) (row := none) (ww14b))); have j0 := z7 A hb; have m0 := z7 q hb; have n0 := zK (IsS94.below (ww14a) hb); have o0 := zK (KeepBut.trans (ww14b) (KeepBut.of_below hb g none) (.inl rfl)); have S0 := zK (zp (ww14c) hb); revert b0 c0 d0 e0 j0 m0 n0 o0 S0; clear z y u A q HI0 HK HB; intro z y u D1 A q HI0 HK HB; clear hb n1; obtain ⟨f7, g7, i7⟩ := Kd.R_slice D1.out; subst i7) | ((with_reducible refine gc 77 rfl ?_); refine zF 81 Try.func77 #[.pointer (some ⟨g, 0, none⟩), .slice f7 i4.length g7] rfl zL ?_; (with_reducible refine (spec_l1PickInt.calls g L A0 B0 _ _ i4 j4 n6 o6 w0 _ ?side1 ?side2 ?side3 ?side4 ?side5 a0j.out).mono ?_); (case side1 => exact ww14a); (case side2 => exact ww14c); (case side3 => exact zC (Kd.R_reads' D1.out).2.2); (case side4 => exact (Kd.R_reads' D1.out).2.1); (case side5 => exact far_slice (IsS94.own_ne HI0.out D1.out (by decide))); rintro e b2m ⟨rfl, hi, hb, hk⟩; refine ⟨_, rfl, ?_⟩; have b0 := zK (Kd.R_mono (Kd.R_keep (IsS94.apart (show IsS94 w0 _ g L A0 B0 from ww14a) (zkR z) (by decide)) hk (fun _ h => h.2)) (fun _ h => h.1)); have c0 := zK (Kd.Q_mono (Kd.Q_keep (IsS94.apartQ (show IsS94 w0 _ g L A0 B0 from ww14a) (zkQ y) (by decide)) hk (fun _ h => h.2)) (fun _ h => h.1)); have d0 := zK (Kd.R_mono (Kd.R_keep (IsS94.apart (show IsS94 w0 _ g L A0 B0 from ww14a) (zkR u) (by decide)) hk (fun _ h => h.2)) (fun _ h => h.1)); have e0 := zK (KeepBut.blk hk (g' := t0) (o := .cells #[.slice none 0 0, .slice none 0 0, .slice none 0 0, .int .i64 0, .int .i64 0, .int .i64 0] 30 (0, 0)) (zM A) x0.out (by simp)); have j0 := zK (KeepBut.blk hk (g' := T) (o := .cells #[u450000, u450001, u450002, .int .i64 a0, .int .i64 ji5, .int .i64 U] 30 (0, 0)) (zM q) y0.out (by simp)); have m0 := zK (Kd.R_mono (Kd.R_keep (IsS94.apart (show IsS94 w0 _ g L A0 B0 from ww14a) (zkR D1) (by decide)) hk (fun _ h => h.2)) (fun _ h => h.1)); have n0 := zK (KeepBut.trans (ww14b) hk (.inl rfl)); have o0 := zK (hb); have S0 := zK (hi); revert b0 c0 d0 e0 j0 m0 n0 o0 S0; clear z y u A q D1 HK HB HI0; intro z y u A q D1 HK HB HI0; have a8z := G0.out; have a9a := F0.out; have a9b := y0.out; have a9c := E.out; obtain ⟨a0l, a0m, a0n, a0o, a0p, a0q, a0s, a0t, a0u, a0x, a0y, a0z⟩ := zc6 q; obtain ⟨j7, l7, m7⟩ := Kd.R_slice z.out; subst m7; have a9d := x0.out; have a9e := D.out; obtain ⟨a1a, a1b, a1c, a1d, a1e, a1f, a1g, a1j, a1l, a1m, a1n, a1o⟩ := zc6 A; obtain ⟨n7, o7, p7, _⟩ := Kd.Q_slice y.out; subst p7; obtain ⟨q7, s7, t7⟩ := Kd.R_slice u.out; subst t7))
     refine bodyPost_ret (results_cell_row rfl _ _ t0 30 #[.slice j7 O.length l7, .slice n7 I.length o7, .slice q7 J.length s7, .int .i64 a0, .int .i64 j4, .int .i64 U] (0, 0) _ rfl (zW A) Try.underlying30 rfl (by kernel_rfl)) rfl ?_
     exact ⟨_, _, _, by first | rfl | (simp [errW_none, errW_some] <;> rfl) | (simp only [← hji3, ← hji5]; first | rfl | (simp [errW_none, errW_some] <;> rfl)) | (simp [*, errW_none, errW_some] <;> rfl), Kd.R_mono (zlR (Kd.R_types (Kd.R_types z.out q.out (by decide)) A.out (by decide))) (fun _ hk => ⟨hk.1.1.1.1, hk.1.1.1.2⟩), Kd.Q_mono (zlQ (Kd.Q_types (Kd.Q_types y.out q.out (by decide)) A.out (by decide))) (fun _ hk => ⟨hk.1.1.1.1, hk.1.1.1.2⟩), Kd.R_mono (zlR (Kd.R_types (Kd.R_types u.out q.out (by decide)) A.out (by decide))) (fun _ hk => ⟨hk.1.1.1.1, hk.1.1.1.2⟩), ww14a, ww14c, ww14b⟩
   rw [if_neg b2] at H
   have l6 := beq_eq_false_iff_ne.mpr b2
   have m6 := bne_iff_ne.mpr b2
   by_cases d2 : X0 = 4
   · as_aux_lemma =>
     rw [if_pos d2] at H
     have q6 := beq_iff_eq.mpr d2
     have s6 := bne_eq_false_iff_eq.mpr d2
     clear d2
     obtain ⟨l4, y2⟩ : ∃ y_ : List Int, y_ = (([1000000, 999999, (-1)] : List Int)) := ⟨_, rfl⟩
     replace H : ((spec_l1PickInt.f L A0 B0 l4).bind fun C1 => (some (O, I, J, C1.1, ji5, U, C1.2.1, C1.2.2))) = some (r1, r2, r3, r4, r5, r6, r7, r8) := by first | (rw [y2]; with_reducible exact H) | (have D0 := (Option.bind_some _ _).symm.trans H; rw [y2]; with_reducible exact D0) | (have D0 := (Option.bind_some _ _).symm.trans H; with_reducible exact D0) | with_reducible exact H | (rw [y2]; exact H) | exact H
     have Ny504 := zK y2
     clear y2
     replace H := z6 H
     obtain ⟨⟨m4, t6, x6⟩, C4, H⟩ := H
     replace H : (some (O, I, J, m4, ji5, U, t6, x6)) = some (r1, r2, r3, r4, r5, r6, r7, r8) := H
     have a1p := zK C4
     clear C4
     simp only [Option.some.injEq, Prod.mk.injEq] at H
     obtain ⟨rfl, rfl, rfl, rfl, rfl, rfl, rfl, rfl⟩ := H
     go_wp2_with (first | ((with_reducible refine gc 60 rfl ?_); refine zF 52 Try.func60 #[.pointer (some ⟨g, 0, none⟩), .int .i64 6] rfl zL ?_; (with_reducible refine (spec_l1Below.calls g L g0 i0 6 X0 A0 B0 w0 _ ?side1 ?side2 d3.out).mono ?_); (case side1 => exact ww14a); (case side2 => exact ww14c); rintro e b2n ⟨rfl, hi, hb, hk⟩; refine ⟨_, rfl, ?_⟩; have b0 := zK (Kd.R_mono (Kd.R_keep (IsS94.apart (show IsS94 w0 _ g L g0 i0 from ww14a) (zkR z) (by decide)) hk (fun _ h => h.2)) (fun _ h => h.1)); have c0 := zK (Kd.Q_mono (Kd.Q_keep (IsS94.apartQ (show IsS94 w0 _ g L g0 i0 from ww14a) (zkQ y) (by decide)) hk (fun _ h => h.2)) (fun _ h => h.1)); have d0 := zK (Kd.R_mono (Kd.R_keep (IsS94.apart (show IsS94 w0 _ g L g0 i0 from ww14a) (zkR u) (by decide)) hk (fun _ h => h.2)) (fun _ h => h.1)); have e0 := zK (KeepBut.blk hk (g' := t0) (o := .cells #[.slice none 0 0, .slice none 0 0, .slice none 0 0, .int .i64 0, .int .i64 0, .int .i64 0] 30 (0, 0)) (zM A) x0.out (by simp)); have j0 := zK (KeepBut.blk hk (g' := T) (o := .cells #[u450000, u450001, u450002, .int .i64 a0, .int .i64 ji5, .int .i64 U] 30 (0, 0)) (zM q) y0.out (by simp)); have m0 := zK (KeepBut.trans (ww14b) hk (.inl rfl)); have n0 := zK (hb); have o0 := zK (hi); revert b0 c0 d0 e0 j0 m0 n0 o0; clear z y u A q HK HB HI0; intro z y u A q HK HB HI0) | ((with_reducible refine gd 86 rfl ?_); (try (refine gate_guard (by rfl) ?_; dsimp only)); refine Kd.R_lit (Kd.int .i64) _ 3 ?hg (N := 86) ?hd (xs := ([1000000, 999999, (-1)] : List Int)) (inner := [.int .i64 1000000, .int .i64 999999, .int .i64 (-1)]) (ok := fun _ => True) (okp := fun _ => True) ?hr ?hp (fun _ hk => hk) trivial (Below.refl _ _) (Nat.le_refl _) (by simp) ?_; (case hd => rfl); (case hg => rfl); (case hr => first | (go_simp; done) | (go_simp; rfl)); (case hp => exact (Reps.one (show Kd.M (Kd.int .i64) _ _ _ 1000000 [.int .i64 1000000] from rfl) (Reps.one (show Kd.M (Kd.int .i64) _ _ _ 999999 [.int .i64 999999] from rfl) (Reps.one (show Kd.M (Kd.int .i64) _ _ _ (-1) [.int .i64 (-1)] from rfl) (Reps.none _ _))))); intro v505 b2o o1 hb hg_ hnew_; clear hg_ hnew_; (first | rw [← Ny504.out] at o1 | (simp only [Int.reduceToNat] at o1; rw [← Ny504.out] at o1)); have b0 := zK (Kd.R_elder' (zkR z) (Kd.R_base o1) hb); have c0 := zK (Kd.Q_elder' (zkQ y) (Kd.R_base o1) hb); have d0 := zK (Kd.R_elder' (zkR u) (Kd.R_base o1) hb); have e0 := zK (Kd.R_lower (Kd.R_new' (Kd.R_new' (Kd.R_new' o1 (Kd.R_lt (zkR z))) (Kd.Q_lt (zkQ y))) (Kd.R_lt (zkR u))) (keep_size (w := w) (g := g) (row := none) (ww14b))); have j0 := z7 A hb; have m0 := z7 q hb; have n0 := zK (IsS94.below (ww14a) hb); have o0 := zK (KeepBut.trans (ww14b) (KeepBut.of_below hb g none) (.inl rfl)); have S0 := zK (zp (ww14c) hb); revert b0 c0 d0 e0 j0 m0 n0 o0 S0; clear z y u A q HI0 HK HB; intro z y u E1 A q HI0 HK HB; clear hb o1; obtain ⟨x7, y7, B7⟩ := Kd.R_slice E1.out; subst B7) | ((with_reducible refine gc 77 rfl ?_); refine zF 87 Try.func77 #[.pointer (some ⟨g, 0, none⟩), .slice x7 l4.length y7] rfl zL ?_; (with_reducible refine (spec_l1PickInt.calls g L A0 B0 _ _ l4 m4 t6 x6 w0 _ ?side1 ?side2 ?side3 ?side4 ?side5 a1p.out).mono ?_); (case side1 => exact ww14a); (case side2 => exact ww14c); (case side3 => exact zC (Kd.R_reads' E1.out).2.2); (case side4 => exact (Kd.R_reads' E1.out).2.1); (case side5 => exact far_slice (IsS94.own_ne HI0.out E1.out (by decide))); rintro e b2p ⟨rfl, hi, hb, hk⟩; refine ⟨_, rfl, ?_⟩; have b0 := zK (Kd.R_mono (Kd.R_keep (IsS94.apart (show IsS94 w0 _ g L A0 B0 from ww14a) (zkR z) (by decide)) hk (fun _ h => h.2)) (fun _ h => h.1)); have c0 := zK (Kd.Q_mono (Kd.Q_keep (IsS94.apartQ (show IsS94 w0 _ g L A0 B0 from ww14a) (zkQ y) (by decide)) hk (fun _ h => h.2)) (fun _ h => h.1)); have d0 := zK (Kd.R_mono (Kd.R_keep (IsS94.apart (show IsS94 w0 _ g L A0 B0 from ww14a) (zkR u) (by decide)) hk (fun _ h => h.2)) (fun _ h => h.1)); have e0 := zK (KeepBut.blk hk (g' := t0) (o := .cells #[.slice none 0 0, .slice none 0 0, .slice none 0 0, .int .i64 0, .int .i64 0, .int .i64 0] 30 (0, 0)) (zM A) x0.out (by simp)); have j0 := zK (KeepBut.blk hk (g' := T) (o := .cells #[u450000, u450001, u450002, .int .i64 a0, .int .i64 ji5, .int .i64 U] 30 (0, 0)) (zM q) y0.out (by simp)); have m0 := zK (Kd.R_mono (Kd.R_keep (IsS94.apart (show IsS94 w0 _ g L A0 B0 from ww14a) (zkR E1) (by decide)) hk (fun _ h => h.2)) (fun _ h => h.1)); have n0 := zK (KeepBut.trans (ww14b) hk (.inl rfl)); have o0 := zK (hb); have S0 := zK (hi); revert b0 c0 d0 e0 j0 m0 n0 o0 S0; clear z y u A q E1 HK HB HI0; intro z y u A q E1 HK HB HI0; have a9f := G0.out; have a9g := F0.out; have a9j := y0.out; have a9l := E.out; obtain ⟨a1q, a1s, a1t, a1u, a1x, a1y, a1z, a2a, a2b, a2c, a2d, a2e⟩ := zc6 q; obtain ⟨C7, D7, E7⟩ := Kd.R_slice z.out; subst E7; have a9m := x0.out; have a9n := D.out; obtain ⟨a2f, a2g, a2j, a2l, a2m, a2n, a2o, a2p, a2q, a2s, a2t, a2u⟩ := zc6 A; obtain ⟨F7, G7, I7, _⟩ := Kd.Q_slice y.out; subst I7; obtain ⟨J7, L7, M7⟩ := Kd.R_slice u.out; subst M7))
     refine bodyPost_ret (results_cell_row rfl _ _ t0 30 #[.slice C7 O.length D7, .slice F7 I.length G7, .slice J7 J.length L7, .int .i64 m4, .int .i64 ji5, .int .i64 U] (0, 0) _ rfl (zW A) Try.underlying30 rfl (by kernel_rfl)) rfl ?_
     exact ⟨_, _, _, by first | rfl | (simp [errW_none, errW_some] <;> rfl) | (simp only [← hji3, ← hji5]; first | rfl | (simp [errW_none, errW_some] <;> rfl)) | (simp [*, errW_none, errW_some] <;> rfl), Kd.R_mono (zlR (Kd.R_types (Kd.R_types z.out q.out (by decide)) A.out (by decide))) (fun _ hk => ⟨hk.1.1.1.1, hk.1.1.1.2⟩), Kd.Q_mono (zlQ (Kd.Q_types (Kd.Q_types y.out q.out (by decide)) A.out (by decide))) (fun _ hk => ⟨hk.1.1.1.1, hk.1.1.1.2⟩), Kd.R_mono (zlR (Kd.R_types (Kd.R_types u.out q.out (by decide)) A.out (by decide))) (fun _ hk => ⟨hk.1.1.1.1, hk.1.1.1.2⟩), ww14a, ww14c, ww14b⟩
   rw [if_neg d2] at H
   have q6 := beq_eq_false_iff_ne.mpr d2
   have s6 := bne_iff_ne.mpr d2
   by_cases e2 : X0 = 5
   rotate_left
   · rw [if_neg e2] at H
     have y6 := beq_eq_false_iff_ne.mpr e2
     have B6 := bne_iff_ne.mpr e2
     simp only [Option.some.injEq, Prod.mk.injEq] at H
     obtain ⟨rfl, rfl, rfl, rfl, rfl, rfl, rfl, rfl⟩ := H
     go_wp2_with (first | ((with_reducible refine gc 60 rfl ?_); refine zF 52 Try.func60 #[.pointer (some ⟨g, 0, none⟩), .int .i64 6] rfl zL ?_; (with_reducible refine (spec_l1Below.calls g L g0 i0 6 X0 A0 B0 w0 _ ?side1 ?side2 d3.out).mono ?_); (case side1 => exact ww14a); (case side2 => exact ww14c); rintro e b2q ⟨rfl, hi, hb, hk⟩; refine ⟨_, rfl, ?_⟩; have b0 := zK (Kd.R_mono (Kd.R_keep (IsS94.apart (show IsS94 w0 _ g L g0 i0 from ww14a) (zkR z) (by decide)) hk (fun _ h => h.2)) (fun _ h => h.1)); have c0 := zK (Kd.Q_mono (Kd.Q_keep (IsS94.apartQ (show IsS94 w0 _ g L g0 i0 from ww14a) (zkQ y) (by decide)) hk (fun _ h => h.2)) (fun _ h => h.1)); have d0 := zK (Kd.R_mono (Kd.R_keep (IsS94.apart (show IsS94 w0 _ g L g0 i0 from ww14a) (zkR u) (by decide)) hk (fun _ h => h.2)) (fun _ h => h.1)); have e0 := zK (KeepBut.blk hk (g' := t0) (o := .cells #[.slice none 0 0, .slice none 0 0, .slice none 0 0, .int .i64 0, .int .i64 0, .int .i64 0] 30 (0, 0)) (zM A) x0.out (by simp)); have j0 := zK (KeepBut.blk hk (g' := T) (o := .cells #[u450000, u450001, u450002, .int .i64 a0, .int .i64 ji5, .int .i64 U] 30 (0, 0)) (zM q) y0.out (by simp)); have m0 := zK (KeepBut.trans (ww14b) hk (.inl rfl)); have n0 := zK (hb); have o0 := zK (hi); revert b0 c0 d0 e0 j0 m0 n0 o0; clear z y u A q HK HB HI0; intro z y u A q HK HB HI0; have a9o := G0.out; have a9p := F0.out; have a9q := y0.out; have a9s := E.out; obtain ⟨a2x, a2y, a2z, a3a, a3b, a3c, a3d, a3e, a3f, a3g, a3j, a3l⟩ := zc6 q; obtain ⟨N7, O7, R7⟩ := Kd.R_slice z.out; subst R7; have a9t := x0.out; have a9u := D.out; obtain ⟨a3m, a3n, a3o, a3p, a3q, a3s, a3t, a3u, a3x, a3y, a3z, a4a⟩ := zc6 A; obtain ⟨S7, T7, U7, _⟩ := Kd.Q_slice y.out; subst U7; obtain ⟨V7, X7, a8⟩ := Kd.R_slice u.out; subst a8))
     refine bodyPost_ret (results_cell_row rfl _ _ t0 30 #[.slice N7 O.length O7, .slice S7 I.length T7, .slice V7 J.length X7, .int .i64 a0, .int .i64 ji5, .int .i64 U] (0, 0) _ rfl (zW A) Try.underlying30 rfl (by kernel_rfl)) rfl ?_
     exact ⟨_, _, _, by first | rfl | (simp [errW_none, errW_some] <;> rfl) | (simp only [← hji3, ← hji5]; first | rfl | (simp [errW_none, errW_some] <;> rfl)) | (simp [*, errW_none, errW_some] <;> rfl), Kd.R_mono (zlR (Kd.R_types z.out A.out (by decide))) (fun _ hk => ⟨hk.1.1, hk.1.2⟩), Kd.Q_mono (zlQ (Kd.Q_types y.out A.out (by decide))) (fun _ hk => ⟨hk.1.1, hk.1.2⟩), Kd.R_mono (zlR (Kd.R_types u.out A.out (by decide))) (fun _ hk => ⟨hk.1.1, hk.1.2⟩), ww14a, ww14c, ww14b⟩
   rw [if_pos e2] at H
   have y6 := beq_iff_eq.mpr e2
   have B6 := bne_eq_false_iff_eq.mpr e2
   clear e2
   by_cases p3 : 1 ≤ (I.length : Int)
   rotate_left
   · rw [if_neg p3] at H
     exact absurd H (by simp)
   rw [if_pos p3] at H
   have a9x := eq_true p3
   have a9y := z1 p3
   clear p3
   obtain ⟨T1, B2⟩ : ∃ y_ : List Int, y_ = (I.drop (1 : Int).toNat) := ⟨_, rfl⟩
   replace H : (some (O, T1, J, a0, ji5, U, A0, B0)) = some (r1, r2, r3, r4, r5, r6, r7, r8) := by first | (rw [B2]; with_reducible exact H) | (have D0 := (Option.bind_some _ _).symm.trans H; rw [B2]; with_reducible exact D0) | (have D0 := (Option.bind_some _ _).symm.trans H; with_reducible exact D0) | with_reducible exact H | (rw [B2]; exact H) | exact H
   have Ny510 := zK B2
   clear B2
   simp only [Option.some.injEq, Prod.mk.injEq] at H
   obtain ⟨rfl, rfl, rfl, rfl, rfl, rfl, rfl, rfl⟩ := H
   go_wp2_with (first | ((with_reducible refine gc 60 rfl ?_); refine zF 52 Try.func60 #[.pointer (some ⟨g, 0, none⟩), .int .i64 6] rfl zL ?_; (with_reducible refine (spec_l1Below.calls g L g0 i0 6 X0 A0 B0 w0 _ ?side1 ?side2 d3.out).mono ?_); (case side1 => exact ww14a); (case side2 => exact ww14c); rintro e a4b ⟨rfl, hi, hb, hk⟩; refine ⟨_, rfl, ?_⟩; have b0 := zK (Kd.R_mono (Kd.R_keep (IsS94.apart (show IsS94 w0 _ g L g0 i0 from ww14a) (zkR z) (by decide)) hk (fun _ h => h.2)) (fun _ h => h.1)); have c0 := zK (Kd.Q_mono (Kd.Q_keep (IsS94.apartQ (show IsS94 w0 _ g L g0 i0 from ww14a) (zkQ y) (by decide)) hk (fun _ h => h.2)) (fun _ h => h.1)); have d0 := zK (Kd.R_mono (Kd.R_keep (IsS94.apart (show IsS94 w0 _ g L g0 i0 from ww14a) (zkR u) (by decide)) hk (fun _ h => h.2)) (fun _ h => h.1)); have e0 := zK (KeepBut.blk hk (g' := t0) (o := .cells #[.slice none 0 0, .slice none 0 0, .slice none 0 0, .int .i64 0, .int .i64 0, .int .i64 0] 30 (0, 0)) (zM A) x0.out (by simp)); have j0 := zK (KeepBut.blk hk (g' := T) (o := .cells #[u450000, u450001, u450002, .int .i64 a0, .int .i64 ji5, .int .i64 U] 30 (0, 0)) (zM q) y0.out (by simp)); have m0 := zK (KeepBut.trans (ww14b) hk (.inl rfl)); have n0 := zK (hb); have o0 := zK (hi); revert b0 c0 d0 e0 j0 m0 n0 o0; clear z y u A q HK HB HI0; intro z y u A q HK HB HI0; have a9z := G0.out; have b0a := F0.out; have b0b := y0.out; have b0c := E.out; obtain ⟨a4c, a4d, a4e, a4f, a4g, a4j, a4l, a4m, a4n, a4o, a4p, a4q⟩ := zc6 q; obtain ⟨C2, O2, b8, _⟩ := Kd.Q_slice y.out; subst b8; have n4 : (1 : Int) ≤ ((I.length : Int) : Int) := z3; obtain ⟨b1o, U3, _, hsz147, _⟩ := info_parts info3; have hcut147 := cut_from (P := Try.prog) 26 3 .i64 Try.underlying26 U3 1 hsz147 C2 I.length O2 1 (by omega) n4; have D2 := Kd.Q_drop (k := (1 : Int).toNat) y.out (by omega); obtain ⟨q3, hA147⟩ : ∃ A1, A1 = (if O2 = (1 : Int).toNat then C2 else (C2 : Option Addr).map (·.add ((1 : Int).toNat * 1))) := ⟨_, rfl⟩; obtain ⟨t3, I3⟩ : ∃ c1, c1 = O2 - (1 : Int).toNat := ⟨_, rfl⟩; have J3 : T1.length = I.length - (1 : Int).toNat := (by rw [Ny510.out, List.length_drop]); rw [← Ny510.out] at D2; rw [← J3, ← hA147, ← I3] at hcut147; replace D2 : Kd.Q (Kd.int .i64) 3 a4b w.heap.size (fun k_ => some k_ ≠ (u450000 : Value).ownBlock ∧ some k_ ≠ (u450002 : Value).ownBlock) (.slice q3 T1.length t3) T1 := (by rw [hA147, I3, J3]; exact D2); have HE147 : Aside0 ((Value.slice q3 T1.length t3).ownBlock = (.slice C2 I.length O2 : Value).ownBlock) := ⟨by rw [hA147]; split <;> (cases (C2 : Option Addr) <;> rfl)⟩; clear J3 U3 hsz147 y hA147 I3; have c8 := zK D2; clear D2; replace n4 := eq_true n4; have n_ := zK (Kd.R_mono (ok' := fun k_ => (some k_ ≠ (.slice q3 T1.length t3 : Value).ownBlock ∧ some k_ ≠ (u450002 : Value).ownBlock)) z.out (fun k_ hk => ⟨(by rw [HE147.out]; exact hk.1), hk.2⟩)); clear z; have z := n_; clear n_; have n_ := zK (Kd.R_mono (ok' := fun k_ => (some k_ ≠ (u450000 : Value).ownBlock ∧ some k_ ≠ (.slice q3 T1.length t3 : Value).ownBlock)) u.out (fun k_ hk => ⟨hk.1, (by rw [HE147.out]; exact hk.2)⟩)); clear u; have u := n_; clear n_; obtain ⟨d8, e8, f8⟩ := Kd.R_slice z.out; subst f8; have b0d := x0.out; have b0e := D.out; obtain ⟨a4s, a4t, a4u, a4x, a4y, a4z, a5a, a5b, a5c, a5d, a5e, a5f⟩ := zc6 A; obtain ⟨g8, i8, j8⟩ := Kd.R_slice u.out; subst j8))
   refine bodyPost_ret (results_cell_row rfl _ _ t0 30 #[.slice d8 O.length e8, .slice q3 T1.length t3, .slice g8 J.length i8, .int .i64 a0, .int .i64 ji5, .int .i64 U] (0, 0) _ rfl (zW A) Try.underlying30 rfl (by kernel_rfl)) rfl ?_
   exact ⟨_, _, _, by first | rfl | (simp [errW_none, errW_some] <;> rfl) | (simp only [← hji3, ← hji5]; first | rfl | (simp [errW_none, errW_some] <;> rfl)) | (simp [*, errW_none, errW_some] <;> rfl), Kd.R_mono (zlR (Kd.R_types (Kd.R_types z.out q.out (by decide)) A.out (by decide))) (fun _ hk => ⟨hk.1.1.1, hk.1.1.2⟩), Kd.Q_mono (zlQ (Kd.Q_types (Kd.Q_types c8.out q.out (by decide)) A.out (by decide))) (fun _ hk => ⟨hk.1.1.1, hk.1.1.2⟩), Kd.R_mono (zlR (Kd.R_types (Kd.R_types u.out q.out (by decide)) A.out (by decide))) (fun _ hk => ⟨hk.1.1.1, hk.1.1.2⟩), ww14a, ww14c, ww14b⟩
end Go.Proofs.Ytodfhokndnmdoaa.PFnFactor
