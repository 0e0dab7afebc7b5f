-- Printed out of the translation by this session's own turned copy of a printer; Lean checks it.
import Derived.Test.YtmcboiffbcnalaaPFnExactLivesx0
import Derived.Test.YtmcboiffbcnalaaPFnExactLivesx12
import Derived.Test.YtmcboiffbcnalaaPFnExactLivesx13
import Derived.Test.YtmcboiffbcnalaaPFnExactLivesx14
namespace Go.Proofs.Ytmcboiffbcnalaa.PFnExactLives
open Go.RowKit Go.Proofs.YtmcboiffbcnalaaW.PrintWords Go.Proofs.YtmcboiffbcnalaaW.PrintLast Go.Proofs.YtmcboiffbcnalaaW.PrintMore
attribute [local go_sem] max2_int min2_int max_two min_two max_three min_three max_four min_four
set_option linter.unusedVariables false
set_option linter.unusedSimpArgs false
set_option maxHeartbeats 8000000
set_option maxRecDepth 100000
mutual
def impl_Nest_kernelOk.j0 : Nat → List Bool → Int → Bool → List Int → List Int → List (S71) → List (S79) → List Int → List Int → List (S76) → Int → Int → List Int → Bool → List (S122) → Option (Int × Bool)
 | 0, _, _, _, _, _, _, _, _, _, _, _, _, _, _, _ => none
 | k + 1, x2, x8, X, z, A, B, E, I, J, l, q, u, y, L, M => if X = true then (some (0, false)) else ((impl_Access.f l).bind fun O => ((some (([(⟨q, u, y⟩ : S76)] : List (S76)) : List (S76))).bind fun T => (if O.length + T.length < 3518437208883 then ((some (O ++ T : List (S76))).bind fun U => (impl_Nest_kernelOk.l0 k x2 x8 U (U.length : Int) 0 z A B E I J l q u y L M)) else (none))))
def impl_Nest_kernelOk.l0 : Nat → List Bool → Int → List (S76) → Int → Int → List Int → List Int → List (S71) → List (S79) → List Int → List Int → List (S76) → Int → Int → List Int → Bool → List (S122) → Option (Int × Bool)
 | 0, _, _, _, _, _, _, _, _, _, _, _, _, _, _, _, _, _ => none
 | k + 1, X, x8, z, U, u, l, L, M, O, T, y, q, A, B, E, I, J => if u < U then (if 0 ≤ u then (if u < (z.length : Int) then (if ((rd_T76 z u).f0) < 0 then (impl_Nest_kernelOk.j2 k X x8 z U u true l L M O T y q A B E I J) else (if ((rd_T76 z u).f0) ≥ (l.length : Int) then (impl_Nest_kernelOk.j2 k X x8 z U u true l L M O T y q A B E I J) else (if 0 ≤ ((rd_T76 z u).f0) then (if ((rd_T76 z u).f0) < (l.length : Int) then ((impl_Access_fitsIn.f k ((rd_T76 z u).f0) ((rd_T76 z u).f1) ((rd_T76 z u).f2) y (rd l ((rd_T76 z u).f0))).bind fun b0 => (impl_Nest_kernelOk.j2 k X x8 z U u (!b0) l L M O T y q A B E I J)) else (none)) else (none)))) else (none)) else (none)) else (impl_Nest_kernelOk.l1 k X x8 q (q.length : Int) 0 y q A B E I J)
def impl_Nest_kernelOk.j2 : Nat → List Bool → Int → List (S76) → Int → Int → Bool → List Int → List Int → List (S71) → List (S79) → List Int → List Int → List (S76) → Int → Int → List Int → Bool → List (S122) → Option (Int × Bool)
 | 0, _, _, _, _, _, _, _, _, _, _, _, _, _, _, _, _, _, _ => none
 | k + 1, x2, x8, O, T, U, X, l, q, u, y, z, A, B, E, I, J, L, M => if X = true then (some (0, false)) else (impl_Nest_kernelOk.l0 k x2 x8 O T (wrap64 (U + 1)) l q u y z A B E I J L M)
def impl_Nest_kernelOk.l1 : Nat → List Bool → Int → List (S76) → Int → Int → List Int → List (S76) → Int → Int → List Int → Bool → List (S122) → Option (Int × Bool)
 | 0, _, _, _, _, _, _, _, _, _, _, _, _ => none
 | k + 1, L, M, I, J, q, u, y, l, z, A, B, E => if q < J then (if 0 ≤ q then (if q < (I.length : Int) then (if ((rd_T76 I q).f0) = l then (some (0, false)) else (impl_Nest_kernelOk.l1 k L M I J (wrap64 (q + 1)) u y l z A B E)) else (none)) else (none)) else (if 0 ≤ l then (if l < (L.length : Int) then (some (M, !(rdOf false L l))) else (none)) else (none))
end
def impl_Nest_kernelOk.f (k : Nat) (z : List Int) (A : List Int) (B : List (S71)) (E : List (S79)) (I : List Int) (u : List Int) (q : List (S76)) (J : Int) (L : Int) (M : List Int) (O : Bool) (y : List (S122)) (T : List Bool) : Option (Int × Bool) := (impl_work.f k u).bind fun l => (if l.2 = true then (if (q.length : Int) > 30 then (impl_Nest_kernelOk.j0 k T l.1 true z A B E I u q J L M O y) else ((impl_codeOk.f k y (q.length : Int)).bind fun U => (impl_Nest_kernelOk.j0 k T l.1 (!U) z A B E I u q J L M O y))) else (impl_Nest_kernelOk.j0 k T l.1 true z A B E I u q J L M O y))
def impl_Nest_kernelOk.T4 : Bool × List (List Nat × List Nat) := (true, [([], []), ([0], [0]), ([1], [1]), ([], []), ([3], [3]), ([4], [4]), ([2, 5, 2], [2, 5]), ([6], [6]), ([], [])])
def impl_Nest_kernelOk.B4 : List Nat := [0, 1, 3, 0, 8, 24, 63, 127, 0]
theorem impl_Nest_kernelOk.tab4 : rtab .any (opsOf Try.f48 4) = impl_Nest_kernelOk.T4 := by kernel_rfl
theorem impl_Nest_kernelOk.bits4 : waitsOk impl_Nest_kernelOk.T4.2 impl_Nest_kernelOk.B4 = true := by kernel_rfl
def impl_Nest_kernelOk.T7 : Bool × List (List Nat × List Nat) := (true, [([], []), ([0], [0]), ([1], [1]), ([2], [2]), ([3], [3]), ([4, 3], [3, 4]), ([3], [3]), ([6, 3], [3, 6]), ([7, 3], [3, 7]), ([5, 8, 3], [3, 5, 8]), ([3, 9], [3, 9]), ([10, 3], [10]), ([11], [11]), ([11], [11]), ([13, 11], [11, 13]), ([11], [11]), ([15, 11], [11, 15]), ([11], [11]), ([17, 11], [11, 17]), ([16, 18, 11], [11, 16, 18]), ([19, 11], [11, 19]), ([12, 14, 20, 11, 11], [11, 12, 14, 20]), ([21, 11], [11, 21]), ([11, 22], [11, 22])])
def impl_Nest_kernelOk.B7 : List Nat := [0, 1, 3, 7, 15, 31, 15, 79, 207, 511, 1023, 2047, 4095, 4095, 12287, 4095, 36863, 4095, 135167, 495615, 1019903, 2097151, 4194303, 8388607]
theorem impl_Nest_kernelOk.tab7 : rtab .any (opsOf Try.f48 7) = impl_Nest_kernelOk.T7 := by kernel_rfl
theorem impl_Nest_kernelOk.bits7 : waitsOk impl_Nest_kernelOk.T7.2 impl_Nest_kernelOk.B7 = true := by kernel_rfl
def impl_Nest_kernelOk.T16 : Bool × List (List Nat × List Nat) := (true, [([], []), ([], []), ([], []), ([2], [2]), ([3], [3]), ([1, 4], [1, 4]), ([5], [5]), ([6], [6]), ([0, 0], [0]), ([7, 8, 0, 1, 2, 3, 4, 5, 6, 7, 8], [7])])
def impl_Nest_kernelOk.B16 : List Nat := [0, 0, 0, 4, 12, 30, 62, 126, 1, 511]
theorem impl_Nest_kernelOk.tab16 : rtab .any (opsOf Try.f48 16) = impl_Nest_kernelOk.T16 := by kernel_rfl
theorem impl_Nest_kernelOk.bits16 : waitsOk impl_Nest_kernelOk.T16.2 impl_Nest_kernelOk.B16 = true := by kernel_rfl
theorem impl_Nest_kernelOk.calls (k) (B1) (m1) (g0 : List Int) (n1) (o1) (C0 : List Int) (p1) (q1) (D0 : List (S71)) (t1) (x1) (E0 : List (S79)) (y1) (A1) (F0 : List Int) (M0) (N0) (d0 : List Int) (L : Nat → Prop) (x0) (y0) (J : List (S76)) (X) (c0) (M : Nat → Prop) (q0) (t0) (O : List Int) (B0 : Bool) (T0) (U0) (e0 : List (S122)) (A2) (c2) (l2 : List Bool) (r1) (r2 : Bool) (w) (x5 : Kd.C (Kd.int .i64) w B1 g0.length g0) (y5 : g0.length ≤ m1) (A5 : Kd.C (Kd.int .i64) w n1 C0.length C0) (B5 : C0.length ≤ o1) (C5 : Kd.C k71 w p1 D0.length D0) (D5 : D0.length ≤ q1) (E5 : Kd.C k79 w t1 E0.length E0) (F5 : E0.length ≤ x1) (G5 : Kd.C (Kd.int .i64) w y1 F0.length F0) (I5 : F0.length ≤ A1) (J5 : Kd.C (Kd.int .i64) w M0 d0.length d0) (L5 : d0.length ≤ N0) (f7 : Kd.V k76 76 w w.heap.size (fun k_ => L k_) (.slice x0 J.length y0) J) (g7 : Kd.V (Kd.int .i64) 3 w w.heap.size (fun k_ => M k_) (.slice q0 O.length t0) O) (M5 : Kd.C k122 w T0 e0.length e0) (N5 : e0.length ≤ U0) (y7 : Kd.C Kd.bool w A2 l2.length l2) (A7 : l2.length ≤ c2) (h : impl_Nest_kernelOk.f k g0 C0 D0 E0 F0 d0 J X c0 O B0 e0 l2 = some (r1, r2)) :
 Calls Try.prog 48 #[.agg #[.slice B1 g0.length m1, .slice n1 C0.length o1, .slice p1 D0.length q1, .slice t1 E0.length x1, .slice y1 F0.length A1], .agg #[.slice M0 d0.length N0, .slice x0 J.length y0, .int .i64 X, .int .i64 c0, .slice q0 O.length t0, .bool B0, .slice T0 e0.length U0], .slice A2 l2.length c2] w fun e w' => e = .returned (.tuple #[.int .i64 r1, .bool r2]) ∧ Below w.heap.size w w' := by
 have a1t := Try.underlying34
 have a1u := Try.underlying79
 have a1x := Try.underlying76
 have i7 := zK x5
 have N9 := zK y5
 clear x5 y5
 have O9 := zK A5
 have R9 := zK B5
 clear A5 B5
 have S9 := zK C5
 have T9 := zK D5
 clear C5 D5
 have U9 := zK E5
 have V9 := zK F5
 clear E5 F5
 have X9 := zK G5
 have a0a := zK I5
 clear G5 I5
 have O5 := zK J5
 have R5 := zK L5
 clear J5 L5
 have b1 := zK (show Kd.V k76 76 w w.heap.size (fun k_ => ((L k_ ∨ M k_) ∨ w.heap.size ≤ k_)) (.slice x0 J.length y0) J from Kd.V_mono f7 (fun k_ hk => .inl (.inl hk)))
 have d1 := zK (show Kd.V (Kd.int .i64) 3 w w.heap.size (fun k_ => ((L k_ ∨ M k_) ∨ w.heap.size ≤ k_)) (.slice q0 O.length t0) O from Kd.V_mono g7 (fun k_ hk => .inl (.inr hk)))
 have j7 := zK M5
 have l7 := zK N5
 clear M5 N5
 have t9 := zK y7
 have HC2 := zK A7
 clear y7 A7
 have HB := zK (Below.refl w.heap.size w)
 have H : ((impl_work.f k d0).bind fun L2 => (if L2.2 = true then (if (J.length : Int) > 30 then (impl_Nest_kernelOk.j0 k l2 L2.1 true g0 C0 D0 E0 F0 d0 J X c0 O B0 e0) else ((impl_codeOk.f k e0 (J.length : Int)).bind fun D2 => (impl_Nest_kernelOk.j0 k l2 L2.1 (!D2) g0 C0 D0 E0 F0 d0 J X c0 O B0 e0))) else (impl_Nest_kernelOk.j0 k l2 L2.1 true g0 C0 D0 E0 F0 d0 J X c0 O B0 e0))) = some (r1, r2) := h
 clear h
 replace H := z6 H
 obtain ⟨⟨E1, j5⟩, B7, H⟩ := H
 replace H : (if j5 = true then (if (J.length : Int) > 30 then (impl_Nest_kernelOk.j0 k l2 E1 true g0 C0 D0 E0 F0 d0 J X c0 O B0 e0) else ((impl_codeOk.f k e0 (J.length : Int)).bind fun D2 => (impl_Nest_kernelOk.j0 k l2 E1 (!D2) g0 C0 D0 E0 F0 d0 J X c0 O B0 e0))) else (impl_Nest_kernelOk.j0 k l2 E1 true g0 C0 D0 E0 F0 d0 J X c0 O B0 e0)) = some (r1, r2) := H
 have A4 := zK B7
 clear B7
 have M6 := zK H
 clear H
 go_enter Try.func48, Try.ntmps48
 go_upto_region 2 with (first | ((with_reducible refine gd 3 rfl ?_); (try (refine gate_guard (by rfl) ?_; dsimp only)); refine zJ 3 #[.slice B1 g0.length m1, .slice n1 C0.length o1, .slice p1 D0.length q1, .slice t1 E0.length x1, .slice y1 F0.length A1] 34 ?_; intro I hg w6 hbox hb; have i0 := zK (Kd.V_below (Kd.V_elderB (zkV b1) I (Nat.le_of_eq hg.symm)) hb); have m0 := zK (Kd.V_below (Kd.V_elderB (zkV d1) I (Nat.le_of_eq hg.symm)) hb); have n0 := z8 hb; have o0 := zK (hbox); have p0 := z9 hg; have A0 := z9 hg; revert i0 m0 n0 o0 p0 A0; clear b1 d1 HB; intro b1 d1 HB B a0b a0c; clear hb hbox hg) | ((with_reducible refine gd 4 rfl ?_); (try (refine gate_guard (by rfl) ?_; dsimp only)); refine zJ 4 #[.slice M0 d0.length N0, .slice x0 J.length y0, .int .i64 X, .int .i64 c0, .slice q0 O.length t0, .bool B0, .slice T0 e0.length U0] 79 ?_; intro E hg w7 hbox hb; have i0 := zK (Kd.V_below (Kd.V_elderB (zkV b1) E (Nat.le_of_eq hg.symm)) hb); have m0 := zK (Kd.V_below (Kd.V_elderB (zkV d1) E (Nat.le_of_eq hg.symm)) hb); have n0 := z7 B hb; have o0 := z8 hb; have p0 := zK (hbox); have A0 := z9 hg; have G0 := z9 hg; have S0 := zHH hg B; have N2 := zGG hg B; revert i0 m0 n0 o0 p0 A0 G0 S0 N2; clear b1 d1 B HB; intro b1 d1 B HB l a0d a0e i1 j1; clear hb hbox hg; have a1z := j1.out; have a2a := i1.out; obtain ⟨C4, D4, E4, F4, G4, I4, J4, L4, M4, N4, O4, R4, S4, T4⟩ := zc7 l) | ((with_reducible refine gc 67 rfl ?_); refine zF 17 Try.func67 #[.slice M0 d0.length N0] rfl zL ?_; refine (impl_work.calls k _ _ d0 E1 j5 _ (zS O5) R5.out A4.out).mono ?_; rintro e w' ⟨rfl, ⟨nd, rfl⟩⟩; refine ⟨_, rfl, ?_⟩))
 (try simp only [Act.put, zq1, zq2, zq3])
 go_cut [36] (fun v36 wc => ∃ (kq : Nat) (M2 : Bool), v36 = .bool M2 ∧ Aside0 (impl_Nest_kernelOk.j0 kq l2 E1 M2 g0 C0 D0 E0 F0 d0 J X c0 O B0 e0 = some (r1, r2)) ∧ Aside0 (kq ≤ k) ∧ Aside0 (Kd.V k76 76 wc w.heap.size (fun k_ => ((L k_ ∨ M k_) ∨ w.heap.size ≤ k_) ∧ k_ ≠ I ∧ k_ ≠ E) (.slice x0 J.length y0) J) ∧ Aside0 (Kd.V (Kd.int .i64) 3 wc w.heap.size (fun k_ => ((L k_ ∨ M k_) ∨ w.heap.size ≤ k_) ∧ k_ ≠ I ∧ k_ ≠ E) (.slice q0 O.length t0) O) ∧ Aside0 (wc.heap[I]? = some (.cells #[(.slice B1 g0.length m1), (.slice n1 C0.length o1), (.slice p1 D0.length q1), (.slice t1 E0.length x1), (.slice y1 F0.length A1)] 34 (0, 0))) ∧ Aside0 (wc.heap[E]? = some (.cells #[(.slice M0 d0.length N0), (.slice x0 J.length y0), .int .i64 X, .int .i64 c0, (.slice q0 O.length t0), .bool B0, (.slice T0 e0.length U0)] 79 (0, 0))) ∧ Aside0 (Below w.heap.size w wc))
 case first =>
  have H := M6.out
  clear M6
  by_cases t3 : j5 = true
  rotate_left
  · replace t3 := Bool.eq_false_iff.mpr t3
    subst t3
    rw [if_neg (show ¬ (false = true) by decide)] at H
    have H' := zK H
    clear H
    go_wp2
    go_meet
    case rel => exact ⟨_, (true), zR, H', ⟨by first | omega | exact Nat.le_refl _⟩, ⟨Kd.V_mono (zlV b1.out) (fun _ hk => ⟨hk.1.1, ⟨hk.1.2, hk.2⟩⟩)⟩, ⟨Kd.V_mono (zlV d1.out) (fun _ hk => ⟨hk.1.1, ⟨hk.1.2, hk.2⟩⟩)⟩, ⟨zM B⟩, ⟨zM l⟩, ⟨zB⟩⟩
  subst t3
  rw [if_pos rfl] at H
  by_cases F2 : (J.length : Int) > 30
  · as_aux_lemma =>
    rw [if_pos F2] at H
    have J1 := z1 F2
    have q4 : decide (30 < J.length) = true := z1 (by omega)
    clear F2
    (first | rw [J1] | (simp only [i64_w, i32_w]; rw [J1]) | skip)
    have H' := zK H
    clear H
    have a0f := j1.out
    have a0g := i1.out
    obtain ⟨x3, y3, A3, B3, C3, D3, E3, F3, G3, I3, J3, L3, M3, N3⟩ := zc7 l
    go_wp2
    go_meet
    case rel => exact ⟨_, (true), zR, H', ⟨by first | omega | exact Nat.le_refl _⟩, ⟨Kd.V_mono (zlV b1.out) (fun _ hk => ⟨hk.1.1, ⟨hk.1.2, hk.2⟩⟩)⟩, ⟨Kd.V_mono (zlV d1.out) (fun _ hk => ⟨hk.1.1, ⟨hk.1.2, hk.2⟩⟩)⟩, ⟨zM B⟩, ⟨zM l⟩, ⟨zB⟩⟩
  rw [if_neg F2] at H
  have J1 := z2 F2
  have q4 : decide (30 < J.length) = false := z2 (by omega)
  clear F2
  (first | rw [J1] | (simp only [i64_w, i32_w]; rw [J1]) | skip)
  replace H := z6 H
  obtain ⟨D2, N6, H⟩ := H
  have x9 := zK N6
  clear N6
  have H' := zK H
  clear H
  have a0j := j1.out
  have a0l := i1.out
  obtain ⟨O3, R3, S3, T3, U3, V3, X3, a4, b4, d4, e4, f4, g4, i4⟩ := zc7 l
  go_wp2_with (first | (go_at_call 68; (with_reducible refine (impl_codeOk.calls k _ _ e0 (J.length : Int) D2 _ ?side1 ?side2 x9.out).mono ?_); (case side1 => exact zS j7); (case side2 => exact l7.out); rintro e w17 ⟨rfl, hb⟩; have i0 := zK (Kd.V_below (zkV b1) hb); have m0 := zK (Kd.V_below (zkV d1) hb); have n0 := z7 B hb; have o0 := z7 l hb; have p0 := z8 hb; revert i0 m0 n0 o0 p0; clear b1 d1 B l HB; intro b1 d1 B l HB))
  go_meet
  case rel => exact ⟨_, (!D2), zR, H', ⟨by first | omega | exact Nat.le_refl _⟩, ⟨Kd.V_mono (zlV b1.out) (fun _ hk => ⟨hk.1.1, ⟨hk.1.2, hk.2⟩⟩)⟩, ⟨Kd.V_mono (zlV d1.out) (fun _ hk => ⟨hk.1.1, ⟨hk.1.2, hk.2⟩⟩)⟩, ⟨zM B⟩, ⟨zM l⟩, ⟨zB⟩⟩
 case rest =>
  clear M6
  try clear c1
  try clear c2
  try clear p2
  try clear c4
  try clear c6
  try clear c8
  try clear t3
  try clear F2
  try clear J1
  try clear q4
  try clear y9
  try clear A9
  try clear x3 y3 A3 B3 C3 D3 E3 F3 G3 I3 J3 L3 M3 N3
  try clear O3 R3 S3 T3 U3 V3 X3 a4 b4 d4 e4 f4 g4 i4
  try clear C4 D4 E4 F4 G4 I4 J4 L4 M4 N4 O4 R4 S4 T4
  obtain ⟨kq, M2, rfl, HA, O2, y, u, B, l, HB⟩ := hcut
  cases kq with
  | zero => exact absurd HA.out (by simp [impl_Nest_kernelOk.j0])
  | succ S5 =>
   have H := HA.out
   clear HA
   simp only [impl_Nest_kernelOk.j0] at H
   by_cases U4 : M2 = true
   · subst U4
     rw [if_pos rfl] at H
     simp only [Option.some.injEq, Prod.mk.injEq] at H
     obtain ⟨rfl, rfl⟩ := H
     go_wp2
     go_ret2
     exact ⟨zE, zB⟩
   replace U4 := Bool.eq_false_iff.mpr U4
   subst U4
   rw [if_neg (show ¬ (false = true) by decide)] at H
   replace H := z6 H
   obtain ⟨L1, R6, H⟩ := H
   have C7 := zK R6
   clear R6
   obtain ⟨M1, o2⟩ : ∃ y_ : List (S76), y_ = (([(⟨X, c0, O⟩ : S76)] : List (S76))) := ⟨_, rfl⟩
   replace H : (if L1.length + M1.length < 3518437208883 then ((some (L1 ++ M1 : List (S76))).bind fun z => (impl_Nest_kernelOk.l0 S5 l2 E1 z (z.length : Int) 0 g0 C0 D0 E0 F0 d0 J X c0 O B0 e0)) else (none)) = some (r1, r2) := by first | (rw [o2]; with_reducible exact H) | (have R2 := (Option.bind_some _ _).symm.trans H; rw [o2]; with_reducible exact R2) | (have R2 := (Option.bind_some _ _).symm.trans H; with_reducible exact R2) | with_reducible exact H | (rw [o2]; exact H) | exact H
   have Ny342 := zK o2
   clear o2
   by_cases V4 : L1.length + M1.length < 3518437208883
   rotate_left
   · rw [if_neg V4] at H
     exact absurd H (by simp)
   rw [if_pos V4] at H
   have LMc20 := zK V4
   clear V4
   obtain ⟨z, q2⟩ : ∃ y_ : List (S76), y_ = (L1 ++ M1) := ⟨_, rfl⟩
   replace H : (impl_Nest_kernelOk.l0 S5 l2 E1 z (z.length : Int) 0 g0 C0 D0 E0 F0 d0 J X c0 O B0 e0) = some (r1, r2) := by first | (rw [q2]; with_reducible exact H) | (have R2 := (Option.bind_some _ _).symm.trans H; rw [q2]; with_reducible exact R2) | (have R2 := (Option.bind_some _ _).symm.trans H; with_reducible exact R2) | with_reducible exact H | (rw [q2]; exact H) | exact H
   have Ny345 := zK q2
   clear q2
   have H' := zK H
   clear H
   try go_wp2
   have i0 := zK (Kd.V_drew y.out)
   have m0 := zK (Kd.V_drew u.out)
   have n0 := zK (zd B.out)
   have o0 := zK (zd l.out)
   have p0 := zK (ze HB.out)
   revert i0 m0 n0 o0 p0
   clear y u B l HB
   intro y u B l HB
   refine start_ (n := 9) (S := fun w' => w'.cell? ⟨E, 0, none⟩ = some (.slice M0 d0.length N0) ∧ w'.cell? ⟨E, 1, none⟩ = some (.slice x0 J.length y0) ∧ w'.cell? ⟨E, 2, none⟩ = some (.int .i64 X) ∧ w'.cell? ⟨E, 3, none⟩ = some (.int .i64 c0) ∧ w'.cell? ⟨E, 4, none⟩ = some (.slice q0 O.length t0) ∧ w'.cell? ⟨E, 5, none⟩ = some (.bool B0) ∧ w'.cell? ⟨E, 6, none⟩ = some (.slice T0 e0.length U0)) (ds := []) (bl 9 0) (by kernel_rfl) rfl (by kernel_rfl) ⟨zy l 0, zy l 1, zy l 2, zy l 3, zy l 4, zy l 5, zy l 6⟩ (fun hHeld => ?_); refine with_tabW impl_Nest_kernelOk.tab4 impl_Nest_kernelOk.bits4 (fun HT_ HW_ => ?_)
   generalize wc.drew = B9 at y u B l HB hHeld ⊢
   refine zP 0 37 (bl 9 1) HT_ ?_
   refine zP 3 40 (bl 9 9) HT_ ?_
   refine zP 8 45 (bl 9 265) HT_ ?_
   refine zT 1 38 (bl 9 267) rfl rfl HT_ HW_ hHeld (by rintro w' ⟨s0, s1, s2, s3, s4, s5, s6⟩; go_simp; with_reducible rfl) ?_
   refine zT 4 41 (bl 9 283) rfl rfl HT_ HW_ hHeld (by rintro w' ⟨s0, s1, s2, s3, s4, s5, s6⟩; go_simp; with_reducible rfl) ?_
   refine join_ (σ := Value × Value) 2 (bl 9 319) (fun s_ => [(39, s_.1), (42, s_.2)]) (fun s_ w' => (w'.cell? ⟨E, 0, none⟩ = some (.slice M0 d0.length N0) ∧ w'.cell? ⟨E, 1, none⟩ = some (.slice x0 J.length y0) ∧ w'.cell? ⟨E, 2, none⟩ = some (.int .i64 X) ∧ w'.cell? ⟨E, 3, none⟩ = some (.int .i64 c0) ∧ w'.cell? ⟨E, 4, none⟩ = some (.slice q0 O.length t0) ∧ w'.cell? ⟨E, 5, none⟩ = some (.bool B0) ∧ w'.cell? ⟨E, 6, none⟩ = some (.slice T0 e0.length U0)) ∧ (Kd.N k76 76 w' w.heap.size (fun k_ => ((L k_ ∨ M k_) ∨ w.heap.size ≤ k_) ∧ some k_ ≠ (s_.2 : Value).ownBlock ∧ k_ ≠ I ∧ k_ ≠ E) s_.1 L1) ∧ (Kd.N k76 76 w' w.heap.size (fun k_ => ((L k_ ∨ M k_) ∨ w.heap.size ≤ k_) ∧ some k_ ≠ (s_.1 : Value).ownBlock ∧ k_ ≠ I ∧ k_ ≠ E) s_.2 M1) ∧ (Kd.V k76 76 w' w.heap.size (fun k_ => ((L k_ ∨ M k_) ∨ w.heap.size ≤ k_) ∧ some k_ ≠ (s_.1 : Value).ownBlock ∧ some k_ ≠ (s_.2 : Value).ownBlock ∧ k_ ≠ I ∧ k_ ≠ E) (.slice x0 J.length y0) J) ∧ (Kd.V (Kd.int .i64) 3 w' w.heap.size (fun k_ => ((L k_ ∨ M k_) ∨ w.heap.size ≤ k_) ∧ some k_ ≠ (s_.1 : Value).ownBlock ∧ some k_ ≠ (s_.2 : Value).ownBlock ∧ k_ ≠ I ∧ k_ ≠ E) (.slice q0 O.length t0) O) ∧ (w'.heap[I]? = some (.cells #[.slice B1 g0.length m1, .slice n1 C0.length o1, .slice p1 D0.length q1, .slice t1 E0.length x1, .slice y1 F0.length A1] 34 (0, 0))) ∧ (w'.heap[E]? = some (.cells #[.slice M0 d0.length N0, .slice x0 J.length y0, .int .i64 X, .int .i64 c0, .slice q0 O.length t0, .bool B0, .slice T0 e0.length U0] 79 (0, 0))) ∧ (Below w.heap.size w w')) ?_ ?_
   rotate_left
   · as_aux_lemma =>
     intro hCont
     refine two_ (i := 2) (j := 5) (Ni := some 39) (Nj := some 42) (bl 9 287) (bl 9 315) rfl rfl rfl rfl (two_of HT_.out (by kernel_rfl)) (by decide) (by decide) (fun K hK => ?_) (fun K hK => ?_)
     · as_aux_lemma =>
       skip
       refine goes_ Try.func69 (by kernel_rfl) rfl #[.slice x0 J.length y0] (by rfl) rfl rfl zL ?_
       refine (impl_Access.calls (fun k_ => (((L k_ ∨ M k_) ∨ w.heap.size ≤ k_) ∧ (k_ ≠ I ∧ k_ ≠ E))) _ _ J L1 _ y.out C7.out).mono ?_
       rintro e D7 ⟨v340, rfl, e2, hb⟩
       refine ⟨_, rfl, ?_⟩
       have i0 := zK (Kd.V_elder' (zkV y) (Kd.N_base e2) hb)
       have m0 := zK (Kd.V_elder' (zkV u) (Kd.N_base e2) hb)
       have n0 := zK (Kd.N_lower (Kd.N_mono (ok' := fun k_ => ((L k_ ∨ M k_) ∨ w.heap.size ≤ k_) ∧ k_ ≠ I ∧ k_ ≠ E) e2 (fun k_ hk_ => ⟨Or.elim hk_ (fun hs_ => hs_.1) (fun hn_ => (.inr (Nat.le_trans (zz zB) hn_))), Or.elim hk_ (fun hs_ => hs_.2.1) (fun hn_ => (Kd.freshB (zM B) k_ hn_)), Or.elim hk_ (fun hs_ => hs_.2.2) (fun hn_ => (Kd.freshB (zM l) k_ hn_))⟩)) (zz zB))
       have o0 := z7 B hb
       have p0 := z7 l hb
       have A0 := z8 hb
       revert i0 m0 n0 o0 p0 A0
       clear y u B l HB
       intro y u e1 B l HB
       (try clear hb)
       (try clear hb2)
       (try clear hk)
       (try clear hi)
       (try clear e2)
       refine hK.out _ _ ⟨zy l 0, zy l 1, zy l 2, zy l 3, zy l 4, zy l 5, zy l 6⟩ (fun hHeld => ?_)
       clear hK K
       refine zU 39 ?_
       refine one_ (i := 5) (N := some 42) (bl 9 319) rfl rfl (one_of HT_.out (by kernel_rfl)) (by decide) (fun K hK => ?_)
       refine Kd.N_lit_step k76 _ 76 ?hg (N' := 42) ?hd (xs := ([(⟨X, c0, O⟩ : S76)] : List (S76))) (inner := [.int .i64 X, .int .i64 c0, .slice q0 O.length t0]) (ok := (fun k_ => ((L k_ ∨ M k_) ∨ w.heap.size ≤ k_) ∧ some k_ ≠ (v340 : Value).ownBlock ∧ k_ ≠ I ∧ k_ ≠ E)) (okp := (fun k_ => ((L k_ ∨ M k_) ∨ w.heap.size ≤ k_) ∧ some k_ ≠ (v340 : Value).ownBlock ∧ k_ ≠ I ∧ k_ ≠ E)) ?hr ?hp (fun _ hk => hk) ((show ∀ k_, D7.heap.size ≤ k_ → (fun k_ => ((L k_ ∨ M k_) ∨ w.heap.size ≤ k_) ∧ some k_ ≠ (v340 : Value).ownBlock ∧ k_ ≠ I ∧ k_ ≠ E) k_ from fun k_ hk => ⟨(.inr (Nat.le_trans (zz zB) hk)), Kd.fresh' (Kd.N_lt (zkN e1)) k_ hk, Kd.freshB (zM B) k_ hk, Kd.freshB (zM l) k_ hk⟩) _ (Nat.le_refl _)) (Below.refl _ _) (Nat.le_refl _) (by simp) ?_; (case hd => rfl); (case hg => rfl); (case hr => first | (go_simp; done) | (go_simp; rfl)); (case hp => exact (Reps.c3 (show Kd.FK k76 _ _ (⟨X, c0, O⟩ : S76) [.int .i64 X, .int .i64 c0, .slice q0 O.length t0] from (k76_mkF _ _ (⟨X, c0, O⟩ : S76) (Kd.V_reads' (Kd.V_mono (ok' := (fun k_ => ((L k_ ∨ M k_) ∨ w.heap.size ≤ k_) ∧ some k_ ≠ (v340 : Value).ownBlock ∧ k_ ≠ I ∧ k_ ≠ E)) (u.out) (fun k_ hk => ⟨hk.1.1, ⟨hk.2, ⟨hk.1.2.1, hk.1.2.2⟩⟩⟩))).2.1 (Kd.V_F (Kd.V_mono (ok' := (fun k_ => ((L k_ ∨ M k_) ∨ w.heap.size ≤ k_) ∧ some k_ ≠ (v340 : Value).ownBlock ∧ k_ ≠ I ∧ k_ ≠ E)) (u.out) (fun k_ hk => ⟨hk.1.1, ⟨hk.2, ⟨hk.1.2.1, hk.1.2.2⟩⟩⟩))))) (Reps.none _ _)))
       intro v343 w23 S1 hb hg_ hnew_
       clear hg_ hnew_
       (first | rw [← Ny342.out] at S1 | (simp only [Int.reduceToNat] at S1; rw [← Ny342.out] at S1))
       have i0 := zK (Kd.V_elder' (zkV y) (Kd.N_base S1) hb)
       have m0 := zK (Kd.V_elder' (zkV u) (Kd.N_base S1) hb)
       have n0 := zK (Kd.N_elder' (zkN e1) (Kd.N_base S1) hb)
       have o0 := zK (Kd.N_lower S1 (zz zB))
       have p0 := z7 B hb
       have A0 := z7 l hb
       have G0 := z8 hb
       revert i0 m0 n0 o0 p0 A0 G0
       clear y u e1 B l HB
       intro y u e1 V0 B l HB
       clear hb S1
       refine hK.out _ _ ⟨zy l 0, zy l 1, zy l 2, zy l 3, zy l 4, zy l 5, zy l 6⟩ (fun hHeld => ?_)
       clear hK K
       refine zU 42 ?_
       exact norm_ (by simp only [putAll, Act.put, zq1, zq2, zq3]) (hCont (v340, v343) _ ⟨hHeld, (Kd.N_mono (zlN e1.out) (fun _ hk => ⟨hk.1.1, ⟨hk.2, ⟨hk.1.2.1, hk.1.2.2⟩⟩⟩)), (zkN V0), (Kd.V_mono (zlV y.out) (fun _ hk => ⟨hk.1.1.1, ⟨hk.1.2, ⟨hk.2, ⟨hk.1.1.2.1, hk.1.1.2.2⟩⟩⟩⟩)), (Kd.V_mono (zlV u.out) (fun _ hk => ⟨hk.1.1.1, ⟨hk.1.2, ⟨hk.2, ⟨hk.1.1.2.1, hk.1.1.2.2⟩⟩⟩⟩)), (zM B), (zM l), zB⟩)
     · as_aux_lemma =>
       skip
       refine Kd.N_lit_step k76 _ 76 ?hg (N' := 42) ?hd (xs := ([(⟨X, c0, O⟩ : S76)] : List (S76))) (inner := [.int .i64 X, .int .i64 c0, .slice q0 O.length t0]) (ok := (fun k_ => ((L k_ ∨ M k_) ∨ w.heap.size ≤ k_) ∧ k_ ≠ I ∧ k_ ≠ E)) (okp := (fun k_ => ((L k_ ∨ M k_) ∨ w.heap.size ≤ k_) ∧ k_ ≠ I ∧ k_ ≠ E)) ?hr ?hp (fun _ hk => hk) ((show ∀ k_, B9.heap.size ≤ k_ → (fun k_ => ((L k_ ∨ M k_) ∨ w.heap.size ≤ k_) ∧ k_ ≠ I ∧ k_ ≠ E) k_ from fun k_ hk => ⟨(.inr (Nat.le_trans (zz zB) hk)), Kd.freshB (zM B) k_ hk, Kd.freshB (zM l) k_ hk⟩) _ (Nat.le_refl _)) (Below.refl _ _) (Nat.le_refl _) (by simp) ?_; (case hd => rfl); (case hg => rfl); (case hr => first | (go_simp; done) | (go_simp; rfl)); (case hp => exact (Reps.c3 (show Kd.FK k76 _ _ (⟨X, c0, O⟩ : S76) [.int .i64 X, .int .i64 c0, .slice q0 O.length t0] from (k76_mkF _ _ (⟨X, c0, O⟩ : S76) (Kd.V_reads' (Kd.V_mono (ok' := (fun k_ => ((L k_ ∨ M k_) ∨ w.heap.size ≤ k_) ∧ k_ ≠ I ∧ k_ ≠ E)) (u.out) (fun k_ hk => ⟨hk.1, ⟨hk.2.1, hk.2.2⟩⟩))).2.1 (Kd.V_F (Kd.V_mono (ok' := (fun k_ => ((L k_ ∨ M k_) ∨ w.heap.size ≤ k_) ∧ k_ ≠ I ∧ k_ ≠ E)) (u.out) (fun k_ hk => ⟨hk.1, ⟨hk.2.1, hk.2.2⟩⟩))))) (Reps.none _ _)))
       intro v343 D7 n2 hb hg_ hnew_
       clear hg_ hnew_
       (first | rw [← Ny342.out] at n2 | (simp only [Int.reduceToNat] at n2; rw [← Ny342.out] at n2))
       have i0 := zK (Kd.V_elder' (zkV y) (Kd.N_base n2) hb)
       have m0 := zK (Kd.V_elder' (zkV u) (Kd.N_base n2) hb)
       have n0 := zK (Kd.N_lower n2 (zz zB))
       have o0 := z7 B hb
       have p0 := z7 l hb
       have A0 := z8 hb
       revert i0 m0 n0 o0 p0 A0
       clear y u B l HB
       intro y u V0 B l HB
       clear hb n2
       refine hK.out _ _ ⟨zy l 0, zy l 1, zy l 2, zy l 3, zy l 4, zy l 5, zy l 6⟩ (fun hHeld => ?_)
       clear hK K
       refine zU 42 ?_
       refine one_ (i := 2) (N := some 39) (bl 9 319) rfl rfl (one_of HT_.out (by kernel_rfl)) (by decide) (fun K hK => ?_)
       refine goes_ Try.func69 (by kernel_rfl) rfl #[.slice x0 J.length y0] (by rfl) rfl rfl zL ?_
       refine (impl_Access.calls (fun k_ => ((((L k_ ∨ M k_) ∨ w.heap.size ≤ k_) ∧ (k_ ≠ I ∧ k_ ≠ E)) ∧ some k_ ≠ (v343 : Value).ownBlock)) _ _ J L1 _ y.out C7.out).mono ?_
       rintro e w24 ⟨v340, rfl, e2, hb⟩
       refine ⟨_, rfl, ?_⟩
       have i0 := zK (Kd.V_elder' (zkV y) (Kd.N_base e2) hb)
       have m0 := zK (Kd.V_elder' (zkV u) (Kd.N_base e2) hb)
       have n0 := zK (Kd.N_elder' (zkN V0) (Kd.N_base e2) hb)
       have o0 := zK (Kd.N_lower (Kd.N_mono (ok' := fun k_ => ((L k_ ∨ M k_) ∨ w.heap.size ≤ k_) ∧ some k_ ≠ (v343 : Value).ownBlock ∧ k_ ≠ I ∧ k_ ≠ E) e2 (fun k_ hk_ => ⟨Or.elim hk_ (fun hs_ => hs_.1.1) (fun hn_ => (.inr (Nat.le_trans (zz zB) hn_))), Or.elim hk_ (fun hs_ => hs_.2) (fun hn_ => (Kd.fresh' (Kd.N_lt (zkN V0)) k_ hn_)), Or.elim hk_ (fun hs_ => hs_.1.2.1) (fun hn_ => (Kd.freshB (zM B) k_ hn_)), Or.elim hk_ (fun hs_ => hs_.1.2.2) (fun hn_ => (Kd.freshB (zM l) k_ hn_))⟩)) (zz zB))
       have p0 := z7 B hb
       have A0 := z7 l hb
       have G0 := z8 hb
       revert i0 m0 n0 o0 p0 A0 G0
       clear y u V0 B l HB
       intro y u V0 e1 B l HB
       (try clear hb)
       (try clear hb2)
       (try clear hk)
       (try clear hi)
       (try clear e2)
       refine hK.out _ _ ⟨zy l 0, zy l 1, zy l 2, zy l 3, zy l 4, zy l 5, zy l 6⟩ (fun hHeld => ?_)
       clear hK K
       refine zU 39 ?_
       exact norm_ (by simp only [putAll, Act.put, zq1, zq2, zq3]) (hCont (v340, v343) _ ⟨hHeld, (zkN e1), (Kd.N_mono (zlN V0.out) (fun _ hk => ⟨hk.1.1, ⟨hk.2, ⟨hk.1.2.1, hk.1.2.2⟩⟩⟩)), (Kd.V_mono (zlV y.out) (fun _ hk => ⟨hk.1.1.1, ⟨hk.2, ⟨hk.1.2, ⟨hk.1.1.2.1, hk.1.1.2.2⟩⟩⟩⟩)), (Kd.V_mono (zlV u.out) (fun _ hk => ⟨hk.1.1.1, ⟨hk.2, ⟨hk.1.2, ⟨hk.1.1.2.1, hk.1.1.2.2⟩⟩⟩⟩)), (zM B), (zM l), zB⟩)
   rintro ⟨v340, v343⟩ D1 ⟨hS_, E7, F7, G7, I7, J7, L7, M7⟩
   have i0 : Aside0 (Kd.N k76 76 D1 w.heap.size (fun k_ => ((L k_ ∨ M k_) ∨ w.heap.size ≤ k_) ∧ some k_ ≠ (v343 : Value).ownBlock ∧ k_ ≠ I ∧ k_ ≠ E) v340 L1) := ⟨E7⟩
   have m0 : Aside0 (Kd.N k76 76 D1 w.heap.size (fun k_ => ((L k_ ∨ M k_) ∨ w.heap.size ≤ k_) ∧ some k_ ≠ (v340 : Value).ownBlock ∧ k_ ≠ I ∧ k_ ≠ E) v343 M1) := ⟨F7⟩
   have n0 : Aside0 (Kd.V k76 76 D1 w.heap.size (fun k_ => ((L k_ ∨ M k_) ∨ w.heap.size ≤ k_) ∧ some k_ ≠ (v340 : Value).ownBlock ∧ some k_ ≠ (v343 : Value).ownBlock ∧ k_ ≠ I ∧ k_ ≠ E) (.slice x0 J.length y0) J) := ⟨G7⟩
   have o0 : Aside0 (Kd.V (Kd.int .i64) 3 D1 w.heap.size (fun k_ => ((L k_ ∨ M k_) ∨ w.heap.size ≤ k_) ∧ some k_ ≠ (v340 : Value).ownBlock ∧ some k_ ≠ (v343 : Value).ownBlock ∧ k_ ≠ I ∧ k_ ≠ E) (.slice q0 O.length t0) O) := ⟨I7⟩
   have p0 : Aside0 (D1.heap[I]? = some (.cells #[.slice B1 g0.length m1, .slice n1 C0.length o1, .slice p1 D0.length q1, .slice t1 E0.length x1, .slice y1 F0.length A1] 34 (0, 0))) := ⟨J7⟩
   have A0 : Aside0 (D1.heap[E]? = some (.cells #[.slice M0 d0.length N0, .slice x0 J.length y0, .int .i64 X, .int .i64 c0, .slice q0 O.length t0, .bool B0, .slice T0 e0.length U0] 79 (0, 0))) := ⟨L7⟩
   have G0 : Aside0 (Below w.heap.size w D1) := ⟨M7⟩
   clear y
   clear u
   clear B
   clear l
   clear HB
   clear E7 F7 G7 I7 J7 L7 M7
   revert i0 m0 n0 o0 p0 A0 G0
   intro e1 V0 y u B l HB
   have hHeld : D1.cell? ⟨E, 0, none⟩ = some (.slice M0 d0.length N0) ∧ D1.cell? ⟨E, 1, none⟩ = some (.slice x0 J.length y0) ∧ D1.cell? ⟨E, 2, none⟩ = some (.int .i64 X) ∧ D1.cell? ⟨E, 3, none⟩ = some (.int .i64 c0) ∧ D1.cell? ⟨E, 4, none⟩ = some (.slice q0 O.length t0) ∧ D1.cell? ⟨E, 5, none⟩ = some (.bool B0) ∧ D1.cell? ⟨E, 6, none⟩ = some (.slice T0 e0.length U0) := hS_
   obtain ⟨S6, T6, U6⟩ := Kd.N_slice V0.out
   (first | subst U6 | (injection U6 with f1_ f2_ f3_; have f4_ := f1_.symm; have f5_ := f3_.symm; clear f1_ f2_ f3_; subst f4_; subst f5_))
   refine norm_ (a' := ?_) ?_ ?_
   rotate_left
   · simp only [putAll, Act.put, zq1, zq2, zq3]
     rfl
   refine one_ (i := 6) (N := some 43) (bl 9 383) rfl rfl (one_of HT_.out (by kernel_rfl)) (by decide) (fun K hK => ?_)
   refine Kd.N_append_rows_step k76 (w0 := w) w.heap.size (by rfl) (.tmp 39) (.tmp 42) 74 76 (.agg #[(.int .i64 0), (.int .i64 0), (.slice none 0 0)]) 40 rfl Try.underlying74 info76 rfl (by decide) (by omega) v340 L1 M1 _ _ _ (fun k_ => ((L k_ ∨ M k_) ∨ w.heap.size ≤ k_) ∧ k_ ≠ I ∧ k_ ≠ E) (fun k_ => ((fun k_ => ((L k_ ∨ M k_) ∨ w.heap.size ≤ k_) ∧ k_ ≠ I ∧ k_ ≠ E)) k_ ∧ some k_ ≠ (v340 : Value).ownBlock) rfl rfl ?aO ?aR (fun _ hk => hk) ?aF ?aB ?aS ?aL ?_
   (case aR => exact (by skip; exact Kd.N_F (Kd.N_mono (ok' := (fun k_ => ((fun k_ => ((L k_ ∨ M k_) ∨ w.heap.size ≤ k_) ∧ k_ ≠ I ∧ k_ ≠ E)) k_ ∧ some k_ ≠ (v340 : Value).ownBlock)) (V0.out) (fun k_ hk => ⟨⟨hk.1, ⟨hk.2.2.1, hk.2.2.2⟩⟩, hk.2.1⟩))))
   (case aB => exact zB)
   (case aF => exact (fun k_ hk => ⟨(.inr (Nat.le_trans (zz zB) hk)), Kd.freshB (zM B) k_ hk, Kd.freshB (zM l) k_ hk⟩))
   (case aO => exact (Kd.N_mono (zlN e1.out) (fun _ hk => ⟨hk.1, ⟨hk.2.2.1, hk.2.2.2⟩⟩)))
   (case aS => exact (zz zB))
   (case aL => have := LMc20.out; omega)
   intro v346 w26 ho hb hg hat
   rw [← Ny345.out] at ho
   have i0 := zK (Kd.V_afterv (ok := (fun k_ => ((L k_ ∨ M k_) ∨ w.heap.size ≤ k_) ∧ some k_ ≠ (.slice S6 M1.length T6 : Value).ownBlock ∧ k_ ≠ I ∧ k_ ≠ E)) (Kd.V_mono (zlV y.out) (fun _ hk => ⟨⟨hk.1, ⟨hk.2.2.1, ⟨hk.2.2.2.1, hk.2.2.2.2⟩⟩⟩, hk.2.1⟩)) hg hat)
   have m0 := zK (Kd.V_afterv (ok := (fun k_ => ((L k_ ∨ M k_) ∨ w.heap.size ≤ k_) ∧ some k_ ≠ (.slice S6 M1.length T6 : Value).ownBlock ∧ k_ ≠ I ∧ k_ ≠ E)) (Kd.V_mono (zlV u.out) (fun _ hk => ⟨⟨hk.1, ⟨hk.2.2.1, ⟨hk.2.2.2.1, hk.2.2.2.2⟩⟩⟩, hk.2.1⟩)) hg hat)
   have n0 := zK (blk_grown (zM B) hg (Kd.N_ne e1.out B.out (by decide)))
   have o0 := zK (blk_grown (zM l) hg (Kd.N_ne e1.out l.out (by decide)))
   have p0 := zK (Kd.N_afterv (ok := (fun k_ => ((L k_ ∨ M k_) ∨ w.heap.size ≤ k_) ∧ k_ ≠ I ∧ k_ ≠ E)) (Kd.N_mono (zlN V0.out) (fun _ hk => ⟨⟨hk.1, ⟨hk.2.2.1, hk.2.2.2⟩⟩, hk.2.1⟩)) hg hat)
   have A0 := zK (hb)
   have G0 := zK (ho)
   revert i0 m0 n0 o0 p0 A0 G0
   clear y u B l V0 HB e1
   intro y u B l V0 HB T5
   clear ho hb hg hat
   obtain ⟨l5, R0, V6⟩ := Kd.N_slice T5.out
   (first | subst V6 | (injection V6 with f1_ f2_ f3_; have f4_ := f1_.symm; have f5_ := f3_.symm; clear f1_ f2_ f3_; subst f4_; subst f5_))
   refine hK.out _ _ ⟨zy l 0, zy l 1, zy l 2, zy l 3, zy l 4, zy l 5, zy l 6⟩ (fun hHeld => ?_)
   clear hK K
   refine zU 43 ?_
   refine zP 7 44 (bl 9 511) HT_ ?_
   refine done_ (done_of HT_.out (by kernel_rfl)) ?_
   try go_wp2
   go_loopg [45] S5 (fun kq v45 w' => ∃ (q : Int), v45 = .int .i64 q ∧ Aside0 (impl_Nest_kernelOk.l0 kq l2 E1 z (z.length : Int) q g0 C0 D0 E0 F0 d0 J X c0 O B0 e0 = some (r1, r2)) ∧ Aside0 (kq ≤ S5) ∧ Aside0 (Kd.N k76 76 w' w.heap.size (fun k_ => ((L k_ ∨ M k_) ∨ w.heap.size ≤ k_) ∧ k_ ≠ I ∧ k_ ≠ E) (.slice l5 z.length R0) z) ∧ Aside0 (Kd.V k76 76 w' w.heap.size (fun k_ => ((L k_ ∨ M k_) ∨ w.heap.size ≤ k_) ∧ some k_ ≠ ((.slice l5 z.length R0) : Value).ownBlock ∧ k_ ≠ I ∧ k_ ≠ E) (.slice x0 J.length y0) J) ∧ Aside0 (Kd.V (Kd.int .i64) 3 w' w.heap.size (fun k_ => ((L k_ ∨ M k_) ∨ w.heap.size ≤ k_) ∧ some k_ ≠ ((.slice l5 z.length R0) : Value).ownBlock ∧ k_ ≠ I ∧ k_ ≠ E) (.slice q0 O.length t0) O) ∧ Aside0 (w'.heap[I]? = some (.cells #[(.slice B1 g0.length m1), (.slice n1 C0.length o1), (.slice p1 D0.length q1), (.slice t1 E0.length x1), (.slice y1 F0.length A1)] 34 (0, 0))) ∧ Aside0 (w'.heap[E]? = some (.cells #[(.slice M0 d0.length N0), (.slice x0 J.length y0), .int .i64 X, .int .i64 c0, (.slice q0 O.length t0), .bool B0, (.slice T0 e0.length U0)] 79 (0, 0))) ∧ Aside0 (Below w.heap.size w w'))
   case atStart => exact ⟨(0), zR, H', ⟨Nat.le_refl _⟩, ⟨zkN T5⟩, ⟨Kd.V_mono (zlV y.out) (fun _ hk => ⟨hk.1.1, ⟨hk.2, ⟨hk.1.2.2.1, hk.1.2.2.2⟩⟩⟩)⟩, ⟨Kd.V_mono (zlV u.out) (fun _ hk => ⟨hk.1.1, ⟨hk.2, ⟨hk.1.2.2.1, hk.1.2.2.2⟩⟩⟩)⟩, ⟨zM B⟩, ⟨zM l⟩, ⟨zB⟩⟩
   clear H'
   try clear c1
   try clear c2
   try clear p2
   try clear c3
   try clear c4
   try clear c6
   try clear c8
   try clear t3
   try clear F2
   try clear J1
   try clear q4
   try clear y9
   try clear A9
   try clear U4
   try clear V4
   try clear x3 y3 A3 B3 C3 D3 E3 F3 G3 I3 J3 L3 M3 N3
   try clear O3 R3 S3 T3 U3 V3 X3 a4 b4 d4 e4 f4 g4 i4
   try clear C4 D4 E4 F4 G4 I4 J4 L4 M4 N4 O4 R4 S4 T4
   try clear p2
   obtain ⟨q, rfl, HA, T2, b0, y, u, B, l, HB⟩ := hrel
   rcases gk with _ | k2
   · exact absurd HA.out (by simp [impl_Nest_kernelOk.l0])
   have H := HA.out
   clear HA
   simp only [impl_Nest_kernelOk.l0] at H
   by_cases U2 : q < (z.length : Int)
   rotate_left
   · as_aux_lemma =>
     rw [if_neg U2] at H
     have U5 := z2 U2
     clear U2
     have H' := zK H
     clear H
     have a0m := j1.out
     have a0n := i1.out
     obtain ⟨g6, i6, j6, l6, m6, n6, o6, q6, t6, x6, y6, A6, B6, C6⟩ := zc7 l
     go_wp2
     go_loopg [77] k2 (fun kq v77 w' => ∃ (I0 : Int), v77 = .int .i64 I0 ∧ Aside0 (impl_Nest_kernelOk.l1 kq l2 E1 J (J.length : Int) I0 d0 J X c0 O B0 e0 = some (r1, r2)) ∧ Aside0 (kq ≤ k2) ∧ Aside0 (Kd.V k76 76 w' w.heap.size (fun k_ => ((L k_ ∨ M k_) ∨ w.heap.size ≤ k_) ∧ k_ ≠ I ∧ k_ ≠ E) (.slice x0 J.length y0) J) ∧ Aside0 (Kd.V k76 76 w' w.heap.size (fun k_ => ((L k_ ∨ M k_) ∨ w.heap.size ≤ k_) ∧ k_ ≠ I ∧ k_ ≠ E) (.slice x0 J.length y0) J) ∧ Aside0 (Kd.V (Kd.int .i64) 3 w' w.heap.size (fun k_ => ((L k_ ∨ M k_) ∨ w.heap.size ≤ k_) ∧ k_ ≠ I ∧ k_ ≠ E) (.slice q0 O.length t0) O) ∧ Aside0 (w'.heap[I]? = some (.cells #[(.slice B1 g0.length m1), (.slice n1 C0.length o1), (.slice p1 D0.length q1), (.slice t1 E0.length x1), (.slice y1 F0.length A1)] 34 (0, 0))) ∧ Aside0 (w'.heap[E]? = some (.cells #[(.slice M0 d0.length N0), (.slice x0 J.length y0), .int .i64 X, .int .i64 c0, (.slice q0 O.length t0), .bool B0, (.slice T0 e0.length U0)] 79 (0, 0))) ∧ Aside0 (Below w.heap.size w w'))
     case atStart => exact ⟨(0), zR, H', ⟨Nat.le_refl _⟩, ⟨Kd.V_mono (zlV y.out) (fun _ hk => ⟨hk.1, ⟨hk.2.2.1, hk.2.2.2⟩⟩)⟩, ⟨Kd.V_mono (zlV y.out) (fun _ hk => ⟨hk.1, ⟨hk.2.2.1, hk.2.2.2⟩⟩)⟩, ⟨Kd.V_mono (zlV u.out) (fun _ hk => ⟨hk.1, ⟨hk.2.2.1, hk.2.2.2⟩⟩)⟩, ⟨zM B⟩, ⟨zM l⟩, ⟨zB⟩⟩
     clear H'
     try clear c1
     try clear c2
     try clear p2
     try clear c3
     try clear p3
     try clear q3
     try clear F9
     try clear c4
     try clear c5
     try clear p6
     try clear c7
     try clear U2
     try clear U5
     try clear X4
     try clear a5
     try clear G9
     try clear N7
     try clear O7
     try clear U7
     try clear G2
     try clear N1
     try clear I2
     try clear t4
     try clear j4
     try clear V5
     try clear l4
     try clear X5
     try clear b5
     try clear c50
     try clear g6 i6 j6 l6 m6 n6 o6 q6 t6 x6 y6 A6 B6 C6
     try clear C1
     try clear p2
     try clear p3
     try clear N7
     try clear V2
     try clear q3
     try clear O7
     try clear X2
     obtain ⟨I0, rfl, HA, R7, J0, y, u, B, l, HB⟩ := hrel
     rcases gk with _ | k3
     · exact absurd HA.out (by simp [impl_Nest_kernelOk.l1])
     have H := HA.out
     clear HA
     simp only [impl_Nest_kernelOk.l1] at H
     by_cases m4 : I0 < (J.length : Int)
     rotate_left
     · as_aux_lemma =>
       rw [if_neg m4] at H
       have m7 := z2 m4
       clear m4
       by_cases a6 : 0 ≤ X
       rotate_left
       · rw [if_neg a6] at H
         exact absurd H (by simp)
       rw [if_pos a6] at H
       have a0o := z1 a6
       clear a6
       by_cases b6 : X < (l2.length : Int)
       rotate_left
       · rw [if_neg b6] at H
         exact absurd H (by simp)
       rw [if_pos b6] at H
       have a0p := z1 b6
       clear b6
       simp only [Option.some.injEq, Prod.mk.injEq] at H
       obtain ⟨rfl, rfl⟩ := H
       try go_wp2
       have i0 := zK (Kd.V_drew J0.out)
       have m0 := zK (Kd.V_drew y.out)
       have n0 := zK (Kd.V_drew u.out)
       have o0 := zK (zd B.out)
       have p0 := zK (zd l.out)
       have A0 := zK (ze HB.out)
       revert i0 m0 n0 o0 p0 A0
       clear J0 y u B l HB
       intro J0 y u B l HB
       have m5 : 0 ≤ (X : Int) := z3
       have n5 : X < (l2.length : Int) := z3
       obtain ⟨n7, V7, a2⟩ := Kd.at_bool t9.out X m5 n5
       have D6 := a2
       cases V7
       (try replace a2 := zX HB a2)
       replace m5 := eq_true m5
       replace n5 := eq_true n5
       refine start_ (n := 10) (S := fun w' => w'.cell? ⟨E, 0, none⟩ = some (.slice M0 d0.length N0) ∧ w'.cell? ⟨E, 1, none⟩ = some (.slice x0 J.length y0) ∧ w'.cell? ⟨E, 2, none⟩ = some (.int .i64 X) ∧ w'.cell? ⟨E, 3, none⟩ = some (.int .i64 c0) ∧ w'.cell? ⟨E, 4, none⟩ = some (.slice q0 O.length t0) ∧ w'.cell? ⟨E, 5, none⟩ = some (.bool B0) ∧ w'.cell? ⟨E, 6, none⟩ = some (.slice T0 e0.length U0) ∧ w'.cell? (n7.add (X).toNat) = some (.bool (rdOf false l2 X))) (ds := []) (bl 10 0) (by kernel_rfl) rfl (by kernel_rfl) ⟨zy l 0, zy l 1, zy l 2, zy l 3, zy l 4, zy l 5, zy l 6, (zX HB D6:)⟩ (fun hHeld => ?_); refine with_tabW impl_Nest_kernelOk.tab16 impl_Nest_kernelOk.bits16 (fun HT_ HW_ => ?_)
       generalize wr.drew = w70 at J0 y u B l HB a2 hHeld ⊢
       refine zP 0 88 (bl 10 1) HT_ ?_
       refine zP 1 89 (bl 10 3) HT_ ?_
       refine zP 2 90 (bl 10 7) HT_ ?_
       refine zP 3 91 (bl 10 15) HT_ ?_
       refine zP 8 6 (bl 10 271) HT_ ?_
       refine zT 4 92 (bl 10 287) rfl rfl HT_ HW_ hHeld (by rintro w' ⟨s0, s1, s2, s3, s4, s5, s6, s7⟩; go_simp; with_reducible rfl) ?_
       refine zP 5 93 (bl 10 319) HT_ ?_
       refine zT 6 94 (bl 10 383) rfl rfl HT_ HW_ hHeld (by rintro w' ⟨s0, s1, s2, s3, s4, s5, s6, s7⟩; go_simp; with_reducible rfl) ?_
       refine zP 7 95 (bl 10 511) HT_ ?_
       refine zP 9 7 (bl 10 1023) HT_ ?_
       refine done_ (done_of HT_.out (by kernel_rfl)) ?_
       try go_wp2
       go_ret2
       exact ⟨zE, zB⟩
     rw [if_pos m4] at H
     have m7 := z1 m4
     clear m4
     by_cases d6 : 0 ≤ I0
     rotate_left
     · rw [if_neg d6] at H
       exact absurd H (by simp)
     rw [if_pos d6] at H
     have a0q := z1 d6
     clear d6
     by_cases e6 : I0 < (J.length : Int)
     rotate_left
     · rw [if_neg e6] at H
       exact absurd H (by simp)
     rw [if_pos e6] at H
     have a0s := z1 e6
     clear e6
     by_cases a3 : ((rd_T76 J I0).f0) = X
     · as_aux_lemma =>
       rw [if_pos a3] at H
       have o7 := beq_iff_eq.mpr a3
       have p7 := bne_eq_false_iff_eq.mpr a3
       clear a3
       simp only [Option.some.injEq, Prod.mk.injEq] at H
       obtain ⟨rfl, rfl⟩ := H
       have O1 : 0 ≤ (I0 : Int) := z3
       have R1 : I0 < (J.length : Int) := z3
       obtain ⟨q7, X6, a7, o5, E6, F6, E2, G1, I1⟩ := at_T76 (Kd.V_reads' J0.out).2.2 I0 O1 R1
       cases o5
       obtain ⟨ce353, hce353, hMe353, hcc353⟩ := Kd.V_get J0.out z76 I0 O1 (by first | exact R1 | exact z3 | (have e_ := (Kd.V_reads' J0.out).1; omega))
       obtain ⟨ua353_2, uc353_2, rfl, ul353_2, ge353_2⟩ := k76_openF hMe353
       have X0 := hcc353 2 _ rfl
       rw [add_field _ _ 2 (by omega)] at X0
       replace X0 := z5 (X0.symm.trans E2)
       injection X0 with hva_ hvn_ hvc_
       rw [hva_] at ge353_2
       rw [hvc_] at ul353_2
       have HL353_2 := zK (show Kd.V (Kd.int .i64) 3 _ w.heap.size _ _ ((rd_T76 J I0).f2) from Kd.V_mk ul353_2 ge353_2)
       clear hva_ hvn_ hvc_ ge353_2 ul353_2
       clear hcc353 hce353
       have a1 := zK I1
       have G6 := zK G1
       clear I1 G1
       replace O1 := eq_true O1
       replace R1 := eq_true R1
       go_wp2_with (first | ((with_reducible refine gd 13 rfl ?_); (try (refine gate_guard (by rfl) ?_; dsimp only)); refine zJ 13 #[.int .i64 0, .int .i64 0, .slice none 0 0] 76 ?_; intro g1 hg w56 hbox hb; have i0 := zK (Kd.V_below (Kd.V_elderB (zkV J0) g1 (Nat.le_of_eq hg.symm)) hb); have m0 := zK (Kd.V_below (Kd.V_elderB (zkV y) g1 (Nat.le_of_eq hg.symm)) hb); have n0 := zK (Kd.V_below (Kd.V_elderB (zkV u) g1 (Nat.le_of_eq hg.symm)) hb); have o0 := zK (Kd.V_below (Kd.V_elderB (zkV HL353_2) g1 (Nat.le_of_eq hg.symm)) hb); have p0 := z7 B hb; have A0 := z7 l hb; have G0 := zK (z4 (by repeat (first | (with_reducible exact a1.out) | (with_reducible refine Kd.C_alloc ?_ _) | (with_reducible refine Kd.C_drewN ?_ _) | (with_reducible refine Kd.C_drew ?_) | exact a1.out)) hb); have S0 := z8 hb; have N2 := zK (hbox); have d5 := z9 hg; have b3 := z9 hg; have d3 := zHH hg B; have e3 := zGG hg B; have f3 := zHH hg l; have g3 := zGG hg l; revert i0 m0 n0 o0 p0 A0 G0 S0 N2 d5 b3 d3 e3 f3 g3; clear J0 y u HL353_2 B l a1 HB; intro J0 y u HL353_2 B l a1 HB x4 t7 x7 T1 U1 V1 X1; clear hb hbox hg; have a0t := U1.out; have a0u := T1.out; have a0x := X1.out; have a0y := V1.out; obtain ⟨d8, e8, f8, g8, i8, j8⟩ := zc3 x4; have a0z := j1.out; have a1a := i1.out; obtain ⟨l8, m8, n8, o8, p8, q8, t8, x8, y8, A8, B8, C8, D8, E8⟩ := zc7 l))
       go_ret2
       exact ⟨zE, zB⟩
     rw [if_neg a3] at H
     have o7 := beq_eq_false_iff_ne.mpr a3
     have p7 := bne_iff_ne.mpr a3
     have H' := zK H
     clear H
     have O1 : 0 ≤ (I0 : Int) := z3
     have R1 : I0 < (J.length : Int) := z3
     obtain ⟨q7, X6, a7, o5, E6, F6, E2, G1, I1⟩ := at_T76 (Kd.V_reads' J0.out).2.2 I0 O1 R1
     cases o5
     obtain ⟨ce353, hce353, hMe353, hcc353⟩ := Kd.V_get J0.out z76 I0 O1 (by first | exact R1 | exact z3 | (have e_ := (Kd.V_reads' J0.out).1; omega))
     obtain ⟨ua353_2, uc353_2, rfl, ul353_2, ge353_2⟩ := k76_openF hMe353
     have X0 := hcc353 2 _ rfl
     rw [add_field _ _ 2 (by omega)] at X0
     replace X0 := z5 (X0.symm.trans E2)
     injection X0 with hva_ hvn_ hvc_
     rw [hva_] at ge353_2
     rw [hvc_] at ul353_2
     have HL353_2 := zK (show Kd.V (Kd.int .i64) 3 _ w.heap.size _ _ ((rd_T76 J I0).f2) from Kd.V_mk ul353_2 ge353_2)
     clear hva_ hvn_ hvc_ ge353_2 ul353_2
     clear hcc353 hce353
     have a1 := zK I1
     have G6 := zK G1
     clear I1 G1
     replace O1 := eq_true O1
     replace R1 := eq_true R1
     go_wp2_with (first | ((with_reducible refine gd 13 rfl ?_); (try (refine gate_guard (by rfl) ?_; dsimp only)); refine zJ 13 #[.int .i64 0, .int .i64 0, .slice none 0 0] 76 ?_; intro g1 hg w62 hbox hb; have i0 := zK (Kd.V_below (Kd.V_elderB (zkV J0) g1 (Nat.le_of_eq hg.symm)) hb); have m0 := zK (Kd.V_below (Kd.V_elderB (zkV y) g1 (Nat.le_of_eq hg.symm)) hb); have n0 := zK (Kd.V_below (Kd.V_elderB (zkV u) g1 (Nat.le_of_eq hg.symm)) hb); have o0 := zK (Kd.V_below (Kd.V_elderB (zkV HL353_2) g1 (Nat.le_of_eq hg.symm)) hb); have p0 := z7 B hb; have A0 := z7 l hb; have G0 := zK (z4 (by repeat (first | (with_reducible exact a1.out) | (with_reducible refine Kd.C_alloc ?_ _) | (with_reducible refine Kd.C_drewN ?_ _) | (with_reducible refine Kd.C_drew ?_) | exact a1.out)) hb); have S0 := z8 hb; have N2 := zK (hbox); have d5 := z9 hg; have b3 := z9 hg; have d3 := zHH hg B; have e3 := zGG hg B; have f3 := zHH hg l; have g3 := zGG hg l; revert i0 m0 n0 o0 p0 A0 G0 S0 N2 d5 b3 d3 e3 f3 g3; clear J0 y u HL353_2 B l a1 HB; intro J0 y u HL353_2 B l a1 HB x4 t7 x7 T1 U1 V1 X1; clear hb hbox hg; have a1b := U1.out; have a1c := T1.out; have a1d := X1.out; have a1e := V1.out; obtain ⟨F8, G8, I8, J8, L8, M8⟩ := zc3 x4; have a1f := j1.out; have a1g := i1.out; obtain ⟨N8, O8, R8, S8, T8, U8, V8, X8, a9, b9, c9, d9, e9, f9⟩ := zc7 l))
     go_roundg k3
     case measure => have := O2.out; have := T2.out; have := R7.out; omega
     case rel => exact ⟨(wrap64 (I0 + 1)), zR, H', ⟨by have := O2.out; have := T2.out; have := R7.out; omega⟩, ⟨Kd.V_mono (zlV (Kd.V_mono J0.out (fun k_ hk => (⟨hk, hk.2⟩ : _ ∧ k_ ≠ g1)))) (fun _ hk => ⟨hk.1.1.1, ⟨hk.1.1.2.1, hk.1.1.2.2⟩⟩)⟩, ⟨Kd.V_mono (zlV (Kd.V_mono y.out (fun k_ hk => (⟨hk, hk.2⟩ : _ ∧ k_ ≠ g1)))) (fun _ hk => ⟨hk.1.1.1, ⟨hk.1.1.2.1, hk.1.1.2.2⟩⟩)⟩, ⟨Kd.V_mono (zlV (Kd.V_mono u.out (fun k_ hk => (⟨hk, hk.2⟩ : _ ∧ k_ ≠ g1)))) (fun _ hk => ⟨hk.1.1.1, ⟨hk.1.1.2.1, hk.1.1.2.2⟩⟩)⟩, ⟨zV B⟩, ⟨zV l⟩, ⟨zB⟩⟩
   rw [if_pos U2] at H
   have U5 := z1 U2
   clear U2
   by_cases X4 : 0 ≤ q
   rotate_left
   · rw [if_neg X4] at H
     exact absurd H (by simp)
   rw [if_pos X4] at H
   have a1j := z1 X4
   clear X4
   by_cases a5 : q < (z.length : Int)
   rotate_left
   · rw [if_neg a5] at H
     exact absurd H (by simp)
   rw [if_pos a5] at H
   have a1l := z1 a5
   clear a5
   have p5 := zK H
   clear H
   have y4 : 0 ≤ (q : Int) := z3
   have B4 : q < (z.length : Int) := z3
   obtain ⟨O0, T, U, X7, g9, i9, I6, n4, o4⟩ := at_T76 (Kd.N_reads' b0.out).2.2 q y4 B4
   cases X7
   obtain ⟨ce348, hce348, hMe348, hcc348⟩ := Kd.N_get b0.out z76 q y4 (by first | exact B4 | exact z3 | (have e_ := (Kd.N_reads' b0.out).1; omega))
   obtain ⟨ua348_2, uc348_2, rfl, ul348_2, ge348_2⟩ := k76_openF hMe348
   have b2 := hcc348 2 _ rfl
   rw [add_field _ _ 2 (by omega)] at b2
   replace b2 := z5 (b2.symm.trans I6)
   injection b2 with hva_ hvn_ hvc_
   rw [hva_] at ge348_2
   rw [hvc_] at ul348_2
   have HL348_2 := zK (show Kd.V (Kd.int .i64) 3 _ w.heap.size _ _ ((rd_T76 z q).f2) from Kd.V_mk ul348_2 ge348_2)
   clear hva_ hvn_ hvc_ ge348_2 ul348_2
   clear hcc348 hce348
   have d2 := zK o4
   have J6 := zK n4
   clear o4 n4
   replace y4 := eq_true y4
   replace B4 := eq_true B4
   go_upto_region 7 with (first | ((with_reducible refine gd 11 rfl ?_); (try (refine gate_guard (by rfl) ?_; dsimp only)); refine zJ 11 #[.int .i64 0, .int .i64 0, .slice none 0 0] 76 ?_; intro A hg L0 hbox hb; have i0 := zK (Kd.N_below (Kd.N_elderB (zkN b0) A (Nat.le_of_eq hg.symm)) hb); have m0 := zK (Kd.V_below (Kd.V_elderB (zkV y) A (Nat.le_of_eq hg.symm)) hb); have n0 := zK (Kd.V_below (Kd.V_elderB (zkV u) A (Nat.le_of_eq hg.symm)) hb); have o0 := zK (Kd.V_below (Kd.V_elderB (zkV HL348_2) A (Nat.le_of_eq hg.symm)) hb); have p0 := z7 B hb; have A0 := z7 l hb; have G0 := zK (z4 (by repeat (first | (with_reducible exact d2.out) | (with_reducible refine Kd.C_alloc ?_ _) | (with_reducible refine Kd.C_drewN ?_ _) | (with_reducible refine Kd.C_drew ?_) | exact d2.out)) hb); have S0 := z8 hb; have N2 := zK (hbox); have d5 := z9 hg; have b3 := z9 hg; have d3 := zHH hg B; have e3 := zGG hg B; have f3 := zHH hg l; have g3 := zGG hg l; revert i0 m0 n0 o0 p0 A0 G0 S0 N2 d5 b3 d3 e3 f3 g3; clear b0 y u HL348_2 B l d2 HB; intro b0 y u HL348_2 B l d2 HB a0 a1m a1n e5 f5 g5 i5; clear hb hbox hg; have a1o := f5.out; have a1p := e5.out; have a1q := i5.out; have a1s := g5.out; obtain ⟨j9, l9, m9, n9, o9, p9⟩ := zc3 a0))
   (try simp only [Act.put, zq1, zq2, zq3])
   go_cut [72] (fun v72 wc => ∃ (kq : Nat) (C2 : Bool), v72 = .bool C2 ∧ Aside0 (impl_Nest_kernelOk.j2 kq l2 E1 z (z.length : Int) q C2 g0 C0 D0 E0 F0 d0 J X c0 O B0 e0 = some (r1, r2)) ∧ Aside0 (kq ≤ k2) ∧ Aside0 (Kd.N k76 76 wc w.heap.size (fun k_ => ((L k_ ∨ M k_) ∨ w.heap.size ≤ k_) ∧ k_ ≠ I ∧ k_ ≠ E) (.slice (some O0) z.length R0) z) ∧ Aside0 (Kd.V k76 76 wc w.heap.size (fun k_ => ((L k_ ∨ M k_) ∨ w.heap.size ≤ k_) ∧ some k_ ≠ ((.slice (some O0) z.length R0) : Value).ownBlock ∧ k_ ≠ I ∧ k_ ≠ E) (.slice x0 J.length y0) J) ∧ Aside0 (Kd.V (Kd.int .i64) 3 wc w.heap.size (fun k_ => ((L k_ ∨ M k_) ∨ w.heap.size ≤ k_) ∧ some k_ ≠ ((.slice (some O0) z.length R0) : Value).ownBlock ∧ k_ ≠ I ∧ k_ ≠ E) (.slice q0 O.length t0) O) ∧ Aside0 (wc.heap[I]? = some (.cells #[(.slice B1 g0.length m1), (.slice n1 C0.length o1), (.slice p1 D0.length q1), (.slice t1 E0.length x1), (.slice y1 F0.length A1)] 34 (0, 0))) ∧ Aside0 (wc.heap[E]? = some (.cells #[(.slice M0 d0.length N0), (.slice x0 J.length y0), .int .i64 X, .int .i64 c0, (.slice q0 O.length t0), .bool B0, (.slice T0 e0.length U0)] 79 (0, 0))) ∧ Aside0 (Below w.heap.size w wc))
   case first =>
    have H := p5.out
    clear p5
    by_cases G2 : ((rd_T76 z q).f0) < 0
    · as_aux_lemma =>
      rw [if_pos G2] at H
      have N1 := z1 G2
      clear G2
      (first | rw [N1] | (simp only [i64_w, i32_w]; rw [N1]) | skip)
      have H' := zK H
      clear H
      try go_wp2
      have i0 : Aside0 (Kd.N k76 76 (((L0.setCell ⟨A, 0, none⟩ (.int .i64 ((rd_T76 z q).f0))).setCell ⟨A, 1, none⟩ (.int .i64 ((rd_T76 z q).f1))).setCell ⟨A, 2, none⟩ (.slice T ((rd_T76 z q).f2).length U)) w.heap.size (fun k_ => ((L k_ ∨ M k_) ∨ w.heap.size ≤ k_) ∧ k_ ≠ I ∧ k_ ≠ E ∧ k_ ≠ A) (.slice (some O0) z.length R0) z) := ⟨Kd.N_mono (zlN (Kd.N_mono b0.out (fun k_ hk => (⟨hk, hk.2⟩ : _ ∧ k_ ≠ A)))) (fun _ hk => ⟨hk.1.1.1, ⟨hk.1.1.2.1, ⟨hk.1.1.2.2, hk.1.2⟩⟩⟩)⟩
      have m0 : Aside0 (Kd.V k76 76 (((L0.setCell ⟨A, 0, none⟩ (.int .i64 ((rd_T76 z q).f0))).setCell ⟨A, 1, none⟩ (.int .i64 ((rd_T76 z q).f1))).setCell ⟨A, 2, none⟩ (.slice T ((rd_T76 z q).f2).length U)) w.heap.size (fun k_ => ((L k_ ∨ M k_) ∨ w.heap.size ≤ k_) ∧ some k_ ≠ (.slice (some O0) z.length R0 : Value).ownBlock ∧ k_ ≠ I ∧ k_ ≠ E ∧ k_ ≠ A) (.slice x0 J.length y0) J) := ⟨Kd.V_mono (zlV (Kd.V_mono y.out (fun k_ hk => (⟨hk, hk.2⟩ : _ ∧ k_ ≠ A)))) (fun _ hk => ⟨hk.1.1.1, ⟨hk.1.1.2.1, ⟨hk.1.1.2.2.1, ⟨hk.1.1.2.2.2, hk.1.2⟩⟩⟩⟩)⟩
      have n0 : Aside0 (Kd.V (Kd.int .i64) 3 (((L0.setCell ⟨A, 0, none⟩ (.int .i64 ((rd_T76 z q).f0))).setCell ⟨A, 1, none⟩ (.int .i64 ((rd_T76 z q).f1))).setCell ⟨A, 2, none⟩ (.slice T ((rd_T76 z q).f2).length U)) w.heap.size (fun k_ => ((L k_ ∨ M k_) ∨ w.heap.size ≤ k_) ∧ some k_ ≠ (.slice (some O0) z.length R0 : Value).ownBlock ∧ k_ ≠ I ∧ k_ ≠ E ∧ k_ ≠ A) (.slice q0 O.length t0) O) := ⟨Kd.V_mono (zlV (Kd.V_mono u.out (fun k_ hk => (⟨hk, hk.2⟩ : _ ∧ k_ ≠ A)))) (fun _ hk => ⟨hk.1.1.1, ⟨hk.1.1.2.1, ⟨hk.1.1.2.2.1, ⟨hk.1.1.2.2.2, hk.1.2⟩⟩⟩⟩)⟩
      have o0 : Aside0 (Kd.V (Kd.int .i64) 3 (((L0.setCell ⟨A, 0, none⟩ (.int .i64 ((rd_T76 z q).f0))).setCell ⟨A, 1, none⟩ (.int .i64 ((rd_T76 z q).f1))).setCell ⟨A, 2, none⟩ (.slice T ((rd_T76 z q).f2).length U)) w.heap.size (fun k_ => ((L k_ ∨ M k_) ∨ w.heap.size ≤ k_) ∧ some k_ ≠ (.slice (some O0) z.length R0 : Value).ownBlock ∧ k_ ≠ I ∧ k_ ≠ E ∧ k_ ≠ A) (.slice T ((rd_T76 z q).f2).length U) ((rd_T76 z q).f2)) := ⟨Kd.V_mono (zlV (Kd.V_mono HL348_2.out (fun k_ hk => (⟨hk, hk.2⟩ : _ ∧ k_ ≠ A)))) (fun _ hk => ⟨hk.1.1.1.1, ⟨hk.1.1.2, ⟨hk.1.1.1.2.1, ⟨hk.1.1.1.2.2, hk.1.2⟩⟩⟩⟩)⟩
      have p0 : Aside0 ((((L0.setCell ⟨A, 0, none⟩ (.int .i64 ((rd_T76 z q).f0))).setCell ⟨A, 1, none⟩ (.int .i64 ((rd_T76 z q).f1))).setCell ⟨A, 2, none⟩ (.slice T ((rd_T76 z q).f2).length U)).heap[I]? = some (.cells #[.slice B1 g0.length m1, .slice n1 C0.length o1, .slice p1 D0.length q1, .slice t1 E0.length x1, .slice y1 F0.length A1] 34 (0, 0))) := ⟨zV B⟩
      have A0 : Aside0 ((((L0.setCell ⟨A, 0, none⟩ (.int .i64 ((rd_T76 z q).f0))).setCell ⟨A, 1, none⟩ (.int .i64 ((rd_T76 z q).f1))).setCell ⟨A, 2, none⟩ (.slice T ((rd_T76 z q).f2).length U)).heap[E]? = some (.cells #[.slice M0 d0.length N0, .slice x0 J.length y0, .int .i64 X, .int .i64 c0, .slice q0 O.length t0, .bool B0, .slice T0 e0.length U0] 79 (0, 0))) := ⟨zV l⟩
      have G0 : Aside0 ((((L0.setCell ⟨A, 0, none⟩ (.int .i64 ((rd_T76 z q).f0))).setCell ⟨A, 1, none⟩ (.int .i64 ((rd_T76 z q).f1))).setCell ⟨A, 2, none⟩ (.slice T ((rd_T76 z q).f2).length U)).heap[A]? = some (.cells #[.int .i64 ((rd_T76 z q).f0), .int .i64 ((rd_T76 z q).f1), .slice T ((rd_T76 z q).f2).length U] 76 (0, 0))) := ⟨zW a0⟩
      have S0 : Aside0 (Below w.heap.size w (((L0.setCell ⟨A, 0, none⟩ (.int .i64 ((rd_T76 z q).f0))).setCell ⟨A, 1, none⟩ (.int .i64 ((rd_T76 z q).f1))).setCell ⟨A, 2, none⟩ (.slice T ((rd_T76 z q).f2).length U))) := ⟨zB⟩
      (try clear b0)
      (try clear y)
      (try clear u)
      (try clear HL348_2)
      (try clear B)
      (try clear l)
      (try clear a0)
      (try clear HB)
      generalize (((L0.setCell ⟨A, 0, none⟩ (.int .i64 ((rd_T76 z q).f0))).setCell ⟨A, 1, none⟩ (.int .i64 ((rd_T76 z q).f1))).setCell ⟨A, 2, none⟩ (.slice T ((rd_T76 z q).f2).length U)) = I9 at i0 m0 n0 o0 p0 A0 G0 S0 ⊢
      revert i0 m0 n0 o0 p0 A0 G0 S0
      intro b0 y u HL348_2 B l a0 HB
      have i0 := zK (Kd.N_drew b0.out)
      have m0 := zK (Kd.V_drew y.out)
      have n0 := zK (Kd.V_drew u.out)
      have o0 := zK (Kd.V_drew HL348_2.out)
      have p0 := zK (zd B.out)
      have A0 := zK (zd l.out)
      have G0 := zK (zd a0.out)
      have S0 := zK (ze HB.out)
      revert i0 m0 n0 o0 p0 A0 G0 S0
      clear b0 y u HL348_2 B l a0 HB
      intro b0 y u HL348_2 B l a0 HB
      refine start_ (n := 24) (S := fun w' => w'.cell? ⟨A, 0, none⟩ = some (.int .i64 ((rd_T76 z q).f0)) ∧ w'.cell? ⟨A, 1, none⟩ = some (.int .i64 ((rd_T76 z q).f1)) ∧ w'.cell? ⟨A, 2, none⟩ = some (.slice T ((rd_T76 z q).f2).length U)) (ds := []) (bl 24 0) (by kernel_rfl) rfl (by kernel_rfl) ⟨zy a0 0, zy a0 1, zy a0 2⟩ (fun hHeld => ?_); refine with_tabW impl_Nest_kernelOk.tab7 impl_Nest_kernelOk.bits7 (fun HT_ HW_ => ?_)
      generalize I9.drew = w39 at b0 y u HL348_2 B l a0 HB hHeld ⊢
      refine zP 0 49 (bl 24 1) HT_ ?_
      refine zT 1 50 (bl 24 3) rfl rfl HT_ HW_ hHeld (by rintro w' ⟨s0, s1, s2⟩; go_simp; with_reducible rfl) ?_
      refine zP 2 51 (bl 24 7) HT_ ?_
      refine zP 3 52 (bl 24 15) HT_ ?_
      refine zO 4 53 (bl 24 31) HT_ ?_
      refine zO 5 54 (bl 24 63) HT_ ?_
      refine zO 6 55 (bl 24 127) HT_ ?_
      refine zO 7 56 (bl 24 255) HT_ ?_
      refine zO 8 57 (bl 24 511) HT_ ?_
      refine zO 9 58 (bl 24 1023) HT_ ?_
      refine zP 10 59 (bl 24 2047) HT_ ?_
      refine zP 11 60 (bl 24 4095) HT_ ?_
      refine zO 12 61 (bl 24 8191) HT_ ?_
      refine zO 13 62 (bl 24 16383) HT_ ?_
      refine zO 14 63 (bl 24 32767) HT_ ?_
      refine zO 15 64 (bl 24 65535) HT_ ?_
      refine zO 16 65 (bl 24 131071) HT_ ?_
      refine zO 17 66 (bl 24 262143) HT_ ?_
      refine zO 18 67 (bl 24 524287) HT_ ?_
      refine zO 19 68 (bl 24 1048575) HT_ ?_
      refine zO 20 69 (bl 24 2097151) HT_ ?_
      refine zO 21 70 (bl 24 4194303) HT_ ?_
      refine zO 22 71 (bl 24 8388607) HT_ ?_
      refine zP 23 72 (bl 24 16777215) HT_ ?_
      refine done_ (done_of HT_.out (by kernel_rfl)) ?_
      try go_wp2
      go_meet
      case rel => exact ⟨_, (true), zR, H', ⟨by have := O2.out; have := T2.out; first | omega | exact Nat.le_refl _⟩, ⟨Kd.N_mono (zlN b0.out) (fun _ hk => ⟨hk.1, ⟨hk.2.1, hk.2.2.1⟩⟩)⟩, ⟨Kd.V_mono (zlV y.out) (fun _ hk => ⟨hk.1, ⟨hk.2.1, ⟨hk.2.2.1, hk.2.2.2.1⟩⟩⟩)⟩, ⟨Kd.V_mono (zlV u.out) (fun _ hk => ⟨hk.1, ⟨hk.2.1, ⟨hk.2.2.1, hk.2.2.2.1⟩⟩⟩)⟩, ⟨zM B⟩, ⟨zM l⟩, ⟨zB⟩⟩
    rw [if_neg G2] at H
    have N1 := z2 G2
    clear G2
    (first | rw [N1] | (simp only [i64_w, i32_w]; rw [N1]) | skip)
    by_cases I2 : ((rd_T76 z q).f0) ≥ (g0.length : Int)
    · as_aux_lemma =>
      rw [if_pos I2] at H
      have t4 := z1 I2
      clear I2
      have H' := zK H
      clear H
      try go_wp2
      have i0 : Aside0 (Kd.N k76 76 (((L0.setCell ⟨A, 0, none⟩ (.int .i64 ((rd_T76 z q).f0))).setCell ⟨A, 1, none⟩ (.int .i64 ((rd_T76 z q).f1))).setCell ⟨A, 2, none⟩ (.slice T ((rd_T76 z q).f2).length U)) w.heap.size (fun k_ => ((L k_ ∨ M k_) ∨ w.heap.size ≤ k_) ∧ k_ ≠ I ∧ k_ ≠ E ∧ k_ ≠ A) (.slice (some O0) z.length R0) z) := ⟨Kd.N_mono (zlN (Kd.N_mono b0.out (fun k_ hk => (⟨hk, hk.2⟩ : _ ∧ k_ ≠ A)))) (fun _ hk => ⟨hk.1.1.1, ⟨hk.1.1.2.1, ⟨hk.1.1.2.2, hk.1.2⟩⟩⟩)⟩
      have m0 : Aside0 (Kd.V k76 76 (((L0.setCell ⟨A, 0, none⟩ (.int .i64 ((rd_T76 z q).f0))).setCell ⟨A, 1, none⟩ (.int .i64 ((rd_T76 z q).f1))).setCell ⟨A, 2, none⟩ (.slice T ((rd_T76 z q).f2).length U)) w.heap.size (fun k_ => ((L k_ ∨ M k_) ∨ w.heap.size ≤ k_) ∧ some k_ ≠ (.slice (some O0) z.length R0 : Value).ownBlock ∧ k_ ≠ I ∧ k_ ≠ E ∧ k_ ≠ A) (.slice x0 J.length y0) J) := ⟨Kd.V_mono (zlV (Kd.V_mono y.out (fun k_ hk => (⟨hk, hk.2⟩ : _ ∧ k_ ≠ A)))) (fun _ hk => ⟨hk.1.1.1, ⟨hk.1.1.2.1, ⟨hk.1.1.2.2.1, ⟨hk.1.1.2.2.2, hk.1.2⟩⟩⟩⟩)⟩
      have n0 : Aside0 (Kd.V (Kd.int .i64) 3 (((L0.setCell ⟨A, 0, none⟩ (.int .i64 ((rd_T76 z q).f0))).setCell ⟨A, 1, none⟩ (.int .i64 ((rd_T76 z q).f1))).setCell ⟨A, 2, none⟩ (.slice T ((rd_T76 z q).f2).length U)) w.heap.size (fun k_ => ((L k_ ∨ M k_) ∨ w.heap.size ≤ k_) ∧ some k_ ≠ (.slice (some O0) z.length R0 : Value).ownBlock ∧ k_ ≠ I ∧ k_ ≠ E ∧ k_ ≠ A) (.slice q0 O.length t0) O) := ⟨Kd.V_mono (zlV (Kd.V_mono u.out (fun k_ hk => (⟨hk, hk.2⟩ : _ ∧ k_ ≠ A)))) (fun _ hk => ⟨hk.1.1.1, ⟨hk.1.1.2.1, ⟨hk.1.1.2.2.1, ⟨hk.1.1.2.2.2, hk.1.2⟩⟩⟩⟩)⟩
      have o0 : Aside0 (Kd.V (Kd.int .i64) 3 (((L0.setCell ⟨A, 0, none⟩ (.int .i64 ((rd_T76 z q).f0))).setCell ⟨A, 1, none⟩ (.int .i64 ((rd_T76 z q).f1))).setCell ⟨A, 2, none⟩ (.slice T ((rd_T76 z q).f2).length U)) w.heap.size (fun k_ => ((L k_ ∨ M k_) ∨ w.heap.size ≤ k_) ∧ some k_ ≠ (.slice (some O0) z.length R0 : Value).ownBlock ∧ k_ ≠ I ∧ k_ ≠ E ∧ k_ ≠ A) (.slice T ((rd_T76 z q).f2).length U) ((rd_T76 z q).f2)) := ⟨Kd.V_mono (zlV (Kd.V_mono HL348_2.out (fun k_ hk => (⟨hk, hk.2⟩ : _ ∧ k_ ≠ A)))) (fun _ hk => ⟨hk.1.1.1.1, ⟨hk.1.1.2, ⟨hk.1.1.1.2.1, ⟨hk.1.1.1.2.2, hk.1.2⟩⟩⟩⟩)⟩
      have p0 : Aside0 ((((L0.setCell ⟨A, 0, none⟩ (.int .i64 ((rd_T76 z q).f0))).setCell ⟨A, 1, none⟩ (.int .i64 ((rd_T76 z q).f1))).setCell ⟨A, 2, none⟩ (.slice T ((rd_T76 z q).f2).length U)).heap[I]? = some (.cells #[.slice B1 g0.length m1, .slice n1 C0.length o1, .slice p1 D0.length q1, .slice t1 E0.length x1, .slice y1 F0.length A1] 34 (0, 0))) := ⟨zV B⟩
      have A0 : Aside0 ((((L0.setCell ⟨A, 0, none⟩ (.int .i64 ((rd_T76 z q).f0))).setCell ⟨A, 1, none⟩ (.int .i64 ((rd_T76 z q).f1))).setCell ⟨A, 2, none⟩ (.slice T ((rd_T76 z q).f2).length U)).heap[E]? = some (.cells #[.slice M0 d0.length N0, .slice x0 J.length y0, .int .i64 X, .int .i64 c0, .slice q0 O.length t0, .bool B0, .slice T0 e0.length U0] 79 (0, 0))) := ⟨zV l⟩
      have G0 : Aside0 ((((L0.setCell ⟨A, 0, none⟩ (.int .i64 ((rd_T76 z q).f0))).setCell ⟨A, 1, none⟩ (.int .i64 ((rd_T76 z q).f1))).setCell ⟨A, 2, none⟩ (.slice T ((rd_T76 z q).f2).length U)).heap[A]? = some (.cells #[.int .i64 ((rd_T76 z q).f0), .int .i64 ((rd_T76 z q).f1), .slice T ((rd_T76 z q).f2).length U] 76 (0, 0))) := ⟨zW a0⟩
      have S0 : Aside0 (Below w.heap.size w (((L0.setCell ⟨A, 0, none⟩ (.int .i64 ((rd_T76 z q).f0))).setCell ⟨A, 1, none⟩ (.int .i64 ((rd_T76 z q).f1))).setCell ⟨A, 2, none⟩ (.slice T ((rd_T76 z q).f2).length U))) := ⟨zB⟩
      (try clear b0)
      (try clear y)
      (try clear u)
      (try clear HL348_2)
      (try clear B)
      (try clear l)
      (try clear a0)
      (try clear HB)
      generalize (((L0.setCell ⟨A, 0, none⟩ (.int .i64 ((rd_T76 z q).f0))).setCell ⟨A, 1, none⟩ (.int .i64 ((rd_T76 z q).f1))).setCell ⟨A, 2, none⟩ (.slice T ((rd_T76 z q).f2).length U)) = J9 at i0 m0 n0 o0 p0 A0 G0 S0 ⊢
      revert i0 m0 n0 o0 p0 A0 G0 S0
      intro b0 y u HL348_2 B l a0 HB
      have i0 := zK (Kd.N_drew b0.out)
      have m0 := zK (Kd.V_drew y.out)
      have n0 := zK (Kd.V_drew u.out)
      have o0 := zK (Kd.V_drew HL348_2.out)
      have p0 := zK (zd B.out)
      have A0 := zK (zd l.out)
      have G0 := zK (zd a0.out)
      have S0 := zK (ze HB.out)
      revert i0 m0 n0 o0 p0 A0 G0 S0
      clear b0 y u HL348_2 B l a0 HB
      intro b0 y u HL348_2 B l a0 HB
      refine start_ (n := 24) (S := fun w' => w'.cell? ⟨A, 0, none⟩ = some (.int .i64 ((rd_T76 z q).f0)) ∧ w'.cell? ⟨A, 1, none⟩ = some (.int .i64 ((rd_T76 z q).f1)) ∧ w'.cell? ⟨A, 2, none⟩ = some (.slice T ((rd_T76 z q).f2).length U) ∧ w'.cell? ⟨I, 0, none⟩ = some (.slice B1 g0.length m1) ∧ w'.cell? ⟨I, 1, none⟩ = some (.slice n1 C0.length o1) ∧ w'.cell? ⟨I, 2, none⟩ = some (.slice p1 D0.length q1) ∧ w'.cell? ⟨I, 3, none⟩ = some (.slice t1 E0.length x1) ∧ w'.cell? ⟨I, 4, none⟩ = some (.slice y1 F0.length A1)) (ds := []) (bl 24 0) (by kernel_rfl) rfl (by kernel_rfl) ⟨zy a0 0, zy a0 1, zy a0 2, zy B 0, zy B 1, zy B 2, zy B 3, zy B 4⟩ (fun hHeld => ?_); refine with_tabW impl_Nest_kernelOk.tab7 impl_Nest_kernelOk.bits7 (fun HT_ HW_ => ?_)
      generalize J9.drew = w42 at b0 y u HL348_2 B l a0 HB hHeld ⊢
      refine zP 0 49 (bl 24 1) HT_ ?_
      refine zT 1 50 (bl 24 3) rfl rfl HT_ HW_ hHeld (by rintro w' ⟨s0, s1, s2, s3, s4, s5, s6, s7⟩; go_simp; with_reducible rfl) ?_
      refine zP 2 51 (bl 24 7) HT_ ?_
      refine zP 3 52 (bl 24 15) HT_ ?_
      refine zP 4 53 (bl 24 31) HT_ ?_
      refine zP 6 55 (bl 24 95) HT_ ?_
      refine zT 5 54 (bl 24 127) rfl rfl HT_ HW_ hHeld (by rintro w' ⟨s0, s1, s2, s3, s4, s5, s6, s7⟩; go_simp; with_reducible rfl) ?_
      refine zT 7 56 (bl 24 255) rfl rfl HT_ HW_ hHeld (by rintro w' ⟨s0, s1, s2, s3, s4, s5, s6, s7⟩; go_simp; with_reducible rfl) ?_
      refine zP 8 57 (bl 24 511) HT_ ?_
      refine zP 9 58 (bl 24 1023) HT_ ?_
      refine zP 10 59 (bl 24 2047) HT_ ?_
      refine zP 11 60 (bl 24 4095) HT_ ?_
      refine zO 12 61 (bl 24 8191) HT_ ?_
      refine zO 13 62 (bl 24 16383) HT_ ?_
      refine zO 14 63 (bl 24 32767) HT_ ?_
      refine zO 15 64 (bl 24 65535) HT_ ?_
      refine zO 16 65 (bl 24 131071) HT_ ?_
      refine zO 17 66 (bl 24 262143) HT_ ?_
      refine zO 18 67 (bl 24 524287) HT_ ?_
      refine zO 19 68 (bl 24 1048575) HT_ ?_
      refine zO 20 69 (bl 24 2097151) HT_ ?_
      refine zO 21 70 (bl 24 4194303) HT_ ?_
      refine zO 22 71 (bl 24 8388607) HT_ ?_
      refine zP 23 72 (bl 24 16777215) HT_ ?_
      refine done_ (done_of HT_.out (by kernel_rfl)) ?_
      try go_wp2
      go_meet
      case rel => exact ⟨_, (true), zR, H', ⟨by have := O2.out; have := T2.out; first | omega | exact Nat.le_refl _⟩, ⟨Kd.N_mono (zlN b0.out) (fun _ hk => ⟨hk.1, ⟨hk.2.1, hk.2.2.1⟩⟩)⟩, ⟨Kd.V_mono (zlV y.out) (fun _ hk => ⟨hk.1, ⟨hk.2.1, ⟨hk.2.2.1, hk.2.2.2.1⟩⟩⟩)⟩, ⟨Kd.V_mono (zlV u.out) (fun _ hk => ⟨hk.1, ⟨hk.2.1, ⟨hk.2.2.1, hk.2.2.2.1⟩⟩⟩)⟩, ⟨zM B⟩, ⟨zM l⟩, ⟨zB⟩⟩
    rw [if_neg I2] at H
    have t4 := z2 I2
    clear I2
    by_cases j4 : 0 ≤ ((rd_T76 z q).f0)
    rotate_left
    · rw [if_neg j4] at H
      exact absurd H (by simp)
    rw [if_pos j4] at H
    have V5 := z1 j4
    clear j4
    by_cases l4 : ((rd_T76 z q).f0) < (g0.length : Int)
    rotate_left
    · rw [if_neg l4] at H
      exact absurd H (by simp)
    rw [if_pos l4] at H
    have X5 := z1 l4
    clear l4
    replace H := z6 H
    obtain ⟨b7, d7, H⟩ := H
    have L9 := zK d7
    clear d7
    have H' := zK H
    clear H
    try go_wp2
    have i0 : Aside0 (Kd.N k76 76 (((L0.setCell ⟨A, 0, none⟩ (.int .i64 ((rd_T76 z q).f0))).setCell ⟨A, 1, none⟩ (.int .i64 ((rd_T76 z q).f1))).setCell ⟨A, 2, none⟩ (.slice T ((rd_T76 z q).f2).length U)) w.heap.size (fun k_ => ((L k_ ∨ M k_) ∨ w.heap.size ≤ k_) ∧ k_ ≠ I ∧ k_ ≠ E ∧ k_ ≠ A) (.slice (some O0) z.length R0) z) := ⟨Kd.N_mono (zlN (Kd.N_mono b0.out (fun k_ hk => (⟨hk, hk.2⟩ : _ ∧ k_ ≠ A)))) (fun _ hk => ⟨hk.1.1.1, ⟨hk.1.1.2.1, ⟨hk.1.1.2.2, hk.1.2⟩⟩⟩)⟩
    have m0 : Aside0 (Kd.V k76 76 (((L0.setCell ⟨A, 0, none⟩ (.int .i64 ((rd_T76 z q).f0))).setCell ⟨A, 1, none⟩ (.int .i64 ((rd_T76 z q).f1))).setCell ⟨A, 2, none⟩ (.slice T ((rd_T76 z q).f2).length U)) w.heap.size (fun k_ => ((L k_ ∨ M k_) ∨ w.heap.size ≤ k_) ∧ some k_ ≠ (.slice (some O0) z.length R0 : Value).ownBlock ∧ k_ ≠ I ∧ k_ ≠ E ∧ k_ ≠ A) (.slice x0 J.length y0) J) := ⟨Kd.V_mono (zlV (Kd.V_mono y.out (fun k_ hk => (⟨hk, hk.2⟩ : _ ∧ k_ ≠ A)))) (fun _ hk => ⟨hk.1.1.1, ⟨hk.1.1.2.1, ⟨hk.1.1.2.2.1, ⟨hk.1.1.2.2.2, hk.1.2⟩⟩⟩⟩)⟩
    have n0 : Aside0 (Kd.V (Kd.int .i64) 3 (((L0.setCell ⟨A, 0, none⟩ (.int .i64 ((rd_T76 z q).f0))).setCell ⟨A, 1, none⟩ (.int .i64 ((rd_T76 z q).f1))).setCell ⟨A, 2, none⟩ (.slice T ((rd_T76 z q).f2).length U)) w.heap.size (fun k_ => ((L k_ ∨ M k_) ∨ w.heap.size ≤ k_) ∧ some k_ ≠ (.slice (some O0) z.length R0 : Value).ownBlock ∧ k_ ≠ I ∧ k_ ≠ E ∧ k_ ≠ A) (.slice q0 O.length t0) O) := ⟨Kd.V_mono (zlV (Kd.V_mono u.out (fun k_ hk => (⟨hk, hk.2⟩ : _ ∧ k_ ≠ A)))) (fun _ hk => ⟨hk.1.1.1, ⟨hk.1.1.2.1, ⟨hk.1.1.2.2.1, ⟨hk.1.1.2.2.2, hk.1.2⟩⟩⟩⟩)⟩
    have o0 : Aside0 (Kd.V (Kd.int .i64) 3 (((L0.setCell ⟨A, 0, none⟩ (.int .i64 ((rd_T76 z q).f0))).setCell ⟨A, 1, none⟩ (.int .i64 ((rd_T76 z q).f1))).setCell ⟨A, 2, none⟩ (.slice T ((rd_T76 z q).f2).length U)) w.heap.size (fun k_ => ((L k_ ∨ M k_) ∨ w.heap.size ≤ k_) ∧ some k_ ≠ (.slice (some O0) z.length R0 : Value).ownBlock ∧ k_ ≠ I ∧ k_ ≠ E ∧ k_ ≠ A) (.slice T ((rd_T76 z q).f2).length U) ((rd_T76 z q).f2)) := ⟨Kd.V_mono (zlV (Kd.V_mono HL348_2.out (fun k_ hk => (⟨hk, hk.2⟩ : _ ∧ k_ ≠ A)))) (fun _ hk => ⟨hk.1.1.1.1, ⟨hk.1.1.2, ⟨hk.1.1.1.2.1, ⟨hk.1.1.1.2.2, hk.1.2⟩⟩⟩⟩)⟩
    have p0 : Aside0 ((((L0.setCell ⟨A, 0, none⟩ (.int .i64 ((rd_T76 z q).f0))).setCell ⟨A, 1, none⟩ (.int .i64 ((rd_T76 z q).f1))).setCell ⟨A, 2, none⟩ (.slice T ((rd_T76 z q).f2).length U)).heap[I]? = some (.cells #[.slice B1 g0.length m1, .slice n1 C0.length o1, .slice p1 D0.length q1, .slice t1 E0.length x1, .slice y1 F0.length A1] 34 (0, 0))) := ⟨zV B⟩
    have A0 : Aside0 ((((L0.setCell ⟨A, 0, none⟩ (.int .i64 ((rd_T76 z q).f0))).setCell ⟨A, 1, none⟩ (.int .i64 ((rd_T76 z q).f1))).setCell ⟨A, 2, none⟩ (.slice T ((rd_T76 z q).f2).length U)).heap[E]? = some (.cells #[.slice M0 d0.length N0, .slice x0 J.length y0, .int .i64 X, .int .i64 c0, .slice q0 O.length t0, .bool B0, .slice T0 e0.length U0] 79 (0, 0))) := ⟨zV l⟩
    have G0 : Aside0 ((((L0.setCell ⟨A, 0, none⟩ (.int .i64 ((rd_T76 z q).f0))).setCell ⟨A, 1, none⟩ (.int .i64 ((rd_T76 z q).f1))).setCell ⟨A, 2, none⟩ (.slice T ((rd_T76 z q).f2).length U)).heap[A]? = some (.cells #[.int .i64 ((rd_T76 z q).f0), .int .i64 ((rd_T76 z q).f1), .slice T ((rd_T76 z q).f2).length U] 76 (0, 0))) := ⟨zW a0⟩
    have S0 : Aside0 (Below w.heap.size w (((L0.setCell ⟨A, 0, none⟩ (.int .i64 ((rd_T76 z q).f0))).setCell ⟨A, 1, none⟩ (.int .i64 ((rd_T76 z q).f1))).setCell ⟨A, 2, none⟩ (.slice T ((rd_T76 z q).f2).length U))) := ⟨zB⟩
    (try clear b0)
    (try clear y)
    (try clear u)
    (try clear HL348_2)
    (try clear B)
    (try clear l)
    (try clear a0)
    (try clear HB)
    generalize (((L0.setCell ⟨A, 0, none⟩ (.int .i64 ((rd_T76 z q).f0))).setCell ⟨A, 1, none⟩ (.int .i64 ((rd_T76 z q).f1))).setCell ⟨A, 2, none⟩ (.slice T ((rd_T76 z q).f2).length U)) = M9 at i0 m0 n0 o0 p0 A0 G0 S0 ⊢
    revert i0 m0 n0 o0 p0 A0 G0 S0
    intro b0 y u HL348_2 B l a0 HB
    have i0 := zK (Kd.N_drew b0.out)
    have m0 := zK (Kd.V_drew y.out)
    have n0 := zK (Kd.V_drew u.out)
    have o0 := zK (Kd.V_drew HL348_2.out)
    have p0 := zK (zd B.out)
    have A0 := zK (zd l.out)
    have G0 := zK (zd a0.out)
    have S0 := zK (ze HB.out)
    revert i0 m0 n0 o0 p0 A0 G0 S0
    clear b0 y u HL348_2 B l a0 HB
    intro b0 y u HL348_2 B l a0 HB
    have V2 : 0 ≤ (((rd_T76 z q).f0) : Int) := z3
    have X2 : ((rd_T76 z q).f0) < (g0.length : Int) := z3
    obtain ⟨f6, a8, C1⟩ := Kd.at_int i7.out ((rd_T76 z q).f0) V2 X2
    have p4 := C1
    cases a8
    (try replace C1 := zX HB C1)
    replace V2 := eq_true V2
    replace X2 := eq_true X2
    refine start_ (n := 24) (S := fun w' => w'.cell? ⟨A, 0, none⟩ = some (.int .i64 ((rd_T76 z q).f0)) ∧ w'.cell? ⟨A, 1, none⟩ = some (.int .i64 ((rd_T76 z q).f1)) ∧ w'.cell? ⟨A, 2, none⟩ = some (.slice T ((rd_T76 z q).f2).length U) ∧ w'.cell? ⟨I, 0, none⟩ = some (.slice (some f6) g0.length m1) ∧ w'.cell? ⟨I, 1, none⟩ = some (.slice n1 C0.length o1) ∧ w'.cell? ⟨I, 2, none⟩ = some (.slice p1 D0.length q1) ∧ w'.cell? ⟨I, 3, none⟩ = some (.slice t1 E0.length x1) ∧ w'.cell? ⟨I, 4, none⟩ = some (.slice y1 F0.length A1) ∧ w'.cell? ⟨E, 0, none⟩ = some (.slice M0 d0.length N0) ∧ w'.cell? ⟨E, 1, none⟩ = some (.slice x0 J.length y0) ∧ w'.cell? ⟨E, 2, none⟩ = some (.int .i64 X) ∧ w'.cell? ⟨E, 3, none⟩ = some (.int .i64 c0) ∧ w'.cell? ⟨E, 4, none⟩ = some (.slice q0 O.length t0) ∧ w'.cell? ⟨E, 5, none⟩ = some (.bool B0) ∧ w'.cell? ⟨E, 6, none⟩ = some (.slice T0 e0.length U0) ∧ w'.cell? (f6.add (((rd_T76 z q).f0)).toNat) = some (.int .i64 (rd g0 ((rd_T76 z q).f0)))) (ds := []) (bl 24 0) (by kernel_rfl) rfl (by kernel_rfl) ⟨zy a0 0, zy a0 1, zy a0 2, zy B 0, zy B 1, zy B 2, zy B 3, zy B 4, zy l 0, zy l 1, zy l 2, zy l 3, zy l 4, zy l 5, zy l 6, (zX HB p4:)⟩ (fun hHeld => ?_); refine with_tabW impl_Nest_kernelOk.tab7 impl_Nest_kernelOk.bits7 (fun HT_ HW_ => ?_)
    generalize M9.drew = w47 at b0 y u HL348_2 B l a0 HB C1 hHeld ⊢
    refine zP 0 49 (bl 24 1) HT_ ?_
    refine zT 1 50 (bl 24 3) rfl rfl HT_ HW_ hHeld (by rintro w' ⟨s0, s1, s2, s3, s4, s5, s6, s7, s8, s9, i3, j3, l3, m3, n3, o3⟩; go_simp; with_reducible rfl) ?_
    refine zP 2 51 (bl 24 7) HT_ ?_
    refine zP 3 52 (bl 24 15) HT_ ?_
    refine zP 4 53 (bl 24 31) HT_ ?_
    refine zP 6 55 (bl 24 95) HT_ ?_
    refine zT 5 54 (bl 24 127) rfl rfl HT_ HW_ hHeld (by rintro w' ⟨s0, s1, s2, s3, s4, s5, s6, s7, s8, s9, i3, j3, l3, m3, n3, o3⟩; go_simp; with_reducible rfl) ?_
    refine zT 7 56 (bl 24 255) rfl rfl HT_ HW_ hHeld (by rintro w' ⟨s0, s1, s2, s3, s4, s5, s6, s7, s8, s9, i3, j3, l3, m3, n3, o3⟩; go_simp; with_reducible rfl) ?_
    refine zP 8 57 (bl 24 511) HT_ ?_
    refine zP 9 58 (bl 24 1023) HT_ ?_
    refine zP 10 59 (bl 24 2047) HT_ ?_
    refine zP 11 60 (bl 24 4095) HT_ ?_
    refine zP 13 62 (bl 24 12287) HT_ ?_
    refine zP 15 64 (bl 24 45055) HT_ ?_
    refine zP 17 66 (bl 24 176127) HT_ ?_
    refine zT 12 61 (bl 24 180223) rfl rfl HT_ HW_ hHeld (by rintro w' ⟨s0, s1, s2, s3, s4, s5, s6, s7, s8, s9, i3, j3, l3, m3, n3, o3⟩; go_simp; with_reducible rfl) ?_
    refine zT 14 63 (bl 24 196607) rfl rfl HT_ HW_ hHeld (by rintro w' ⟨s0, s1, s2, s3, s4, s5, s6, s7, s8, s9, i3, j3, l3, m3, n3, o3⟩; go_simp; with_reducible rfl) ?_
    refine zT 16 65 (bl 24 262143) rfl rfl HT_ HW_ hHeld (by rintro w' ⟨s0, s1, s2, s3, s4, s5, s6, s7, s8, s9, i3, j3, l3, m3, n3, o3⟩; go_simp; with_reducible rfl) ?_
    refine zT 18 67 (bl 24 524287) rfl rfl HT_ HW_ hHeld (by rintro w' ⟨s0, s1, s2, s3, s4, s5, s6, s7, s8, s9, i3, j3, l3, m3, n3, o3⟩; go_simp; with_reducible rfl) ?_
    refine zP 19 68 (bl 24 1048575) HT_ ?_
    refine zT 20 69 (bl 24 2097151) rfl rfl HT_ HW_ hHeld (by rintro w' ⟨s0, s1, s2, s3, s4, s5, s6, s7, s8, s9, i3, j3, l3, m3, n3, o3⟩; go_simp; with_reducible rfl) ?_
    refine one_ (i := 21) (N := some 70) (bl 24 4194303) rfl rfl (one_of HT_.out (by kernel_rfl)) (by decide) (fun K hK => ?_)
    refine goes_ Try.func70 (by kernel_rfl) rfl #[.agg #[.int .i64 ((rd_T76 z q).f0), .int .i64 ((rd_T76 z q).f1), .slice T ((rd_T76 z q).f2).length U], .slice M0 d0.length N0, .int .i64 (rd g0 ((rd_T76 z q).f0))] (by rfl) rfl rfl zL ?_
    with_reducible refine (impl_Access_fitsIn.calls k2 ((rd_T76 z q).f0) ((rd_T76 z q).f1) _ _ ((rd_T76 z q).f2) _ _ d0 (rd g0 ((rd_T76 z q).f0)) b7 _ ?side1 ?side2 ?side3 ?side4 L9.out).mono ?_
    (case side1 => repeat (first | exact ((Kd.V_reads' (zkV HL348_2)).2.2) | (with_reducible refine Kd.C_alloc ?_ _) | (with_reducible refine Kd.C_drewN ?_ _) | (with_reducible refine Kd.C_drew ?_)))
    (case side2 => exact J6.out)
    (case side3 => exact zS O5)
    (case side4 => exact R5.out)
    rintro e w48 ⟨rfl, hb⟩
    refine ⟨_, rfl, ?_⟩
    have i0 := zK (Kd.N_below (zkN b0) hb)
    have m0 := zK (Kd.V_below (zkV y) hb)
    have n0 := zK (Kd.V_below (zkV u) hb)
    have o0 := zK (Kd.V_below (zkV HL348_2) hb)
    have p0 := z7 B hb
    have A0 := z7 l hb
    have G0 := z7 a0 hb
    have S0 := z8 hb
    revert i0 m0 n0 o0 p0 A0 G0 S0
    clear b0 y u HL348_2 B l a0 HB
    intro b0 y u HL348_2 B l a0 HB
    (try clear hb)
    (try clear hb2)
    (try clear hk)
    (try clear hi)
    refine hK.out _ _ ⟨zy a0 0, zy a0 1, zy a0 2, zy B 0, zy B 1, zy B 2, zy B 3, zy B 4, zy l 0, zy l 1, zy l 2, zy l 3, zy l 4, zy l 5, zy l 6, (zX HB p4:)⟩ (fun hHeld => ?_)
    clear hK K
    refine zU 70 ?_
    refine zP 22 71 (bl 24 8388607) HT_ ?_
    refine zP 23 72 (bl 24 16777215) HT_ ?_
    refine done_ (done_of HT_.out (by kernel_rfl)) ?_
    try go_wp2
    go_meet
    case rel => exact ⟨_, (!b7), zR, H', ⟨by have := O2.out; have := T2.out; first | omega | exact Nat.le_refl _⟩, ⟨Kd.N_mono (zlN b0.out) (fun _ hk => ⟨hk.1, ⟨hk.2.1, hk.2.2.1⟩⟩)⟩, ⟨Kd.V_mono (zlV y.out) (fun _ hk => ⟨hk.1, ⟨hk.2.1, ⟨hk.2.2.1, hk.2.2.2.1⟩⟩⟩)⟩, ⟨Kd.V_mono (zlV u.out) (fun _ hk => ⟨hk.1, ⟨hk.2.1, ⟨hk.2.2.1, hk.2.2.2.1⟩⟩⟩)⟩, ⟨zM B⟩, ⟨zM l⟩, ⟨zB⟩⟩
   case rest =>
    clear p5
    try clear c1
    try clear p2
    try clear c3
    try clear p3
    try clear q3
    try clear F9
    try clear c4
    try clear c7
    try clear G9
    try clear N7
    try clear O7
    try clear U7
    try clear G2
    try clear N1
    try clear I2
    try clear t4
    try clear j4
    try clear V5
    try clear l4
    try clear X5
    try clear C1
    try clear V2
    try clear X2
    obtain ⟨kq, C2, rfl, HA, e7, b0, y, u, B, l, HB⟩ := hcut
    cases kq with
    | zero => exact absurd HA.out (by simp [impl_Nest_kernelOk.j2])
    | succ b8 =>
     have H := HA.out
     clear HA
     simp only [impl_Nest_kernelOk.j2] at H
     by_cases b5 : C2 = true
     · subst b5
       rw [if_pos rfl] at H
       simp only [Option.some.injEq, Prod.mk.injEq] at H
       obtain ⟨rfl, rfl⟩ := H
       go_wp2
       go_ret2
       exact ⟨zE, zB⟩
     replace b5 := Bool.eq_false_iff.mpr b5
     subst b5
     rw [if_neg (show ¬ (false = true) by decide)] at H
     have H' := zK H
     clear H
     go_wp2
     go_roundg b8
     case measure => have := O2.out; have := T2.out; have := e7.out; omega
     case rel => exact ⟨(wrap64 (q + 1)), zR, H', ⟨by have := O2.out; have := T2.out; have := e7.out; omega⟩, ⟨zkN b0⟩, ⟨zkV y⟩, ⟨zkV u⟩, ⟨zM B⟩, ⟨zM l⟩, ⟨zB⟩⟩
end Go.Proofs.Ytmcboiffbcnalaa.PFnExactLives
