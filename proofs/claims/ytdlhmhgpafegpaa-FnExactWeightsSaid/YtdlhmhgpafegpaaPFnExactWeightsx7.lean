-- Printed out of the translation by this session's own turned copy of a printer; Lean checks it.
import Derived.Test.YtdlhmhgpafegpaaPFnExactWeightsx0
import Derived.Test.YtdlhmhgpafegpaaPFnExactWeightsx4
import Derived.Test.YtdlhmhgpafegpaaPFnExactWeightsx5
import Derived.Test.YtdlhmhgpafegpaaPFnExactWeightsx6
namespace Go.Proofs.Ytdlhmhgpafegpaa.PFnExactWeights
open Go.RowKit Go.Proofs.YtdlhmhgpafegpaaW.PrintWords Go.Proofs.YtdlhmhgpafegpaaW.PrintLast Go.Proofs.YtdlhmhgpafegpaaW.PrintMore
attribute [local go_sem] max2_int min2_int max_two min_two max_three min_three max_four min_four
set_option linter.unusedVariables false
set_option linter.unusedSimpArgs false
set_option maxHeartbeats 8000000
set_option maxRecDepth 100000
def impl_LmOk.l0 : Nat → List (S57) → List (S57) → Int → Int → Int → List (S57) → Option (Bool)
 | 0, _, _, _, _, _, _ => none
 | k + 1, z, u, A, l, q, y => if l < A then (if 0 ≤ l then (if l < (u.length : Int) then (if (((rd_T57 u l).f0).length : Int) > 4 then (some false) else ((impl_allWithin.f k ((rd_T57 u l).f0) 0 (wrap64 (q - 1))).bind fun B => (if B = true then (if (((rd_T57 u l).f1).length : Int) = q then ((impl_allWithin.f k ((rd_T57 u l).f1) 0 1000).bind fun E => (if E = true then ((impl_all.f k ((rd_T57 u l).f1) 0).bind fun I => (if I = true then (some false) else (if l > 0 then (if 0 ≤ (wrap64 (l - 1)) then (if (wrap64 (l - 1)) < (z.length : Int) then ((impl_byKey.f k ((rd_T57 z (wrap64 (l - 1))).f0) ((rd_T57 u l).f0)).bind fun J => (if J = 0 then (some false) else (impl_LmOk.l0 k z u A (wrap64 (l + 1)) q y))) else (none)) else (none)) else (impl_LmOk.l0 k z u A (wrap64 (l + 1)) q y)))) else (some false))) else (some false)) else (some false)))) else (none)) else (none)) else (if (z.length : Int) > 0 then (if 0 < (z.length : Int) then (some ((((rd_T57 z 0).f0).length : Int) == 0)) else (none)) else (some false))
def impl_LmOk.f (k : Nat) (l : Int) (q : List (S57)) : Option (Bool) := (impl_within.f l 1 64).bind fun y => (if y = true then (if (q.length : Int) > 500 then (some false) else ((impl_sortedRows.f l q).bind fun u => (impl_LmOk.l0 k u u (u.length : Int) 0 l q))) else (some false))
def impl_LmOk.T9 : Bool × List (List Nat × List Nat) := (true, [([], []), ([0], [0]), ([1], [1]), ([2], [2]), ([2], [2]), ([4, 2], [2, 4]), ([3, 5, 2], [2, 3, 5]), ([6, 2], [2, 6]), ([7, 2], [2, 7]), ([2], [2]), ([9, 2], [2, 9]), ([8, 10, 2, 2], [2, 8, 10]), ([11, 2], [2, 11]), ([2, 12], [2, 12])])
def impl_LmOk.B9 : List Nat := [0, 1, 3, 7, 7, 23, 63, 127, 255, 7, 519, 2047, 4095, 8191]
theorem impl_LmOk.tab9 : rtab .any (opsOf Try.f10 9) = impl_LmOk.T9 := by kernel_rfl
theorem impl_LmOk.bits9 : waitsOk impl_LmOk.T9.2 impl_LmOk.B9 = true := by kernel_rfl
theorem impl_LmOk.calls (k) (C0) (b1) (d1) (I0 : List (S57)) (r : Bool) (w) (t2 : Kd.C k57 w b1 I0.length I0) (x2 : I0.length ≤ d1) (h : impl_LmOk.f k C0 I0 = some r) :
 Calls Try.prog 10 #[.agg #[.int .i64 C0, .slice b1 I0.length d1]] w fun e w' => e = .returned (.bool r) ∧ Below w.heap.size w w' := by
 have s6 := Try.underlying29
 have t6 := Try.underlying57
 have f3 := zK t2
 have g3 := zK x2
 clear t2 x2
 have HB := zK (Below.refl w.heap.size w)
 have H : ((impl_within.f C0 1 64).bind fun l2 => (if l2 = true then (if (I0.length : Int) > 500 then (some false) else ((impl_sortedRows.f C0 I0).bind fun q => (impl_LmOk.l0 k q q (q.length : Int) 0 C0 I0))) else (some false))) = some r := h
 clear h
 replace H := z6 H
 obtain ⟨l2, A3, H⟩ := H
 have A2 := zK A3
 clear A3
 rcases zN (l2 = true) with c3 | c3
 replace c3 := Bool.eq_false_iff.mpr c3
 subst c3
 rw [if_neg (show ¬ (false = true) by decide)] at H
 obtain rfl := z5 H
 rotate_left
 subst c3
 rw [if_pos rfl] at H
 by_cases c4 : (I0.length : Int) > 500
 rw [if_pos c4] at H
 have N2 := z1 c4
 have O2 : decide (500 < I0.length) = true := z1 (by omega)
 clear c4
 obtain rfl := z5 H
 rotate_left
 rw [if_neg c4] at H
 have N2 := z2 c4
 have O2 : decide (500 < I0.length) = false := z2 (by omega)
 clear c4
 replace H := z6 H
 obtain ⟨q, B3, H⟩ := H
 have A7 := zK B3
 clear B3
 have H' := zK H
 clear H
 all_goals go_enter Try.func10, Try.ntmps10
 all_goals go_wp2_with (first | ((with_reducible refine gd 1 rfl ?_); (try (refine gate_guard (by rfl) ?_; dsimp only)); refine zJ 1 #[.int .i64 C0, .slice b1 I0.length d1] 29 ?_; intro a0 hg w8 hbox hb; have n0 := z8 hb; have o0 := zK (hbox); have p0 := z9 hg; have q0 := z9 hg; revert n0 o0 p0 q0; clear HB; intro HB y i3 M5; clear hb hbox hg; obtain ⟨R2, T2, U2, V2⟩ := zc2 y) | ((with_reducible refine gc 32 rfl ?_); refine zF 8 Try.func32 #[.int .i64 C0, .int .i64 1, .int .i64 64] rfl zL ?_; (with_reducible refine (impl_within.calls C0 1 64 _ _ A2.out).mono ?_); rintro e w' ⟨rfl, ⟨nd, rfl⟩⟩; refine ⟨_, rfl, ?_⟩) | ((with_reducible refine gc 33 rfl ?_); refine zF 17 Try.func33 #[.agg #[.int .i64 C0, .slice b1 I0.length d1]] rfl zL ?_; refine (impl_sortedRows.calls C0 (fun k_ => k_ < w.heap.size) _ _ I0 q _ (Kd.V_mk g3.out (Kd.F_below (Kd.C_F k57_heap f3.out) zB)) A7.out).mono ?_; rintro e A6 ⟨v221, rfl, B5, hb⟩; refine ⟨_, rfl, ?_⟩; have n0 := zK (Kd.N_lower (Kd.N_mono (ok' := fun k_ => k_ ≠ a0) B5 (fun k_ hk_ => Or.elim hk_ (fun hs_ => fun e_ => Nat.not_le.2 hs_ (by rw [e_]; exact i3.out)) (fun hn_ => (Kd.freshB (zM y) k_ hn_)))) (zz zB)); have o0 := z7 y hb; have p0 := z8 hb; revert n0 o0 p0; clear y HB; intro e2 y HB; obtain ⟨X2, G0, D3⟩ := Kd.N_slice e2.out; subst D3))
 · go_loopg [20] k (fun kq v20 w' => ∃ (l : Int), v20 = .int .i64 l ∧ Aside0 (impl_LmOk.l0 kq q q (q.length : Int) l C0 I0 = some r) ∧ Aside0 (kq ≤ k) ∧ Aside0 (Kd.N k57 57 w' w.heap.size (fun k_ => k_ ≠ a0) (.slice X2 q.length G0) q) ∧ Aside0 (Kd.N k57 57 w' w.heap.size (fun k_ => k_ ≠ a0) (.slice X2 q.length G0) q) ∧ Aside0 (w'.heap[a0]? = some (.cells #[.int .i64 C0, (.slice b1 I0.length d1)] 29 (0, 0))) ∧ Aside0 (Below w.heap.size w w'))
   case atStart => exact ⟨(0), zR, H', ⟨Nat.le_refl _⟩, ⟨zkN e2⟩, ⟨zkN e2⟩, ⟨zM y⟩, ⟨zB⟩⟩
   clear H'
   try clear c1
   try clear p2
   try clear c3
   try clear c4
   try clear N2
   try clear O2
   try clear B6
   try clear C5 D5 E5 F5
   try clear R2 T2 U2 V2
   obtain ⟨l, rfl, HA, y2, B, z, y, HB⟩ := hrel
   rcases gk with _ | k1
   · exact absurd HA.out (by simp [impl_LmOk.l0])
   have H := HA.out
   clear HA
   simp only [impl_LmOk.l0] at H
   by_cases S1 : l < (q.length : Int)
   rotate_left
   · rw [if_neg S1] at H
     have j3 := z2 S1
     clear S1
     by_cases T1 : (q.length : Int) > 0
     rotate_left
     · rw [if_neg T1] at H
       have l3 := z2 T1
       have m3 : decide (0 < q.length) = false := z2 (by omega)
       clear T1
       obtain rfl := z5 H
       go_wp2
       go_ret
       exact ⟨zE, zB⟩
     rw [if_pos T1] at H
     have l3 := z1 T1
     have m3 : decide (0 < q.length) = true := z1 (by omega)
     clear T1
     by_cases B2 : 0 < (q.length : Int)
     rotate_left
     · rw [if_neg B2] at H
       exact absurd H (by simp)
     rw [if_pos B2] at H
     have N5 := z1 B2
     have O5 : decide (0 < q.length) = true := z1 (by omega)
     clear B2
     obtain rfl := z5 H
     have f2 : 0 ≤ (0 : Int) := (by omega)
     have g2 : 0 < (q.length : Int) := z3
     obtain ⟨R5, G5, I5, J5, L5, E3, A1, B1, U1, V1, X1, a2⟩ := at_T57 (Kd.N_reads' B.out).2.2 0 f2 g2
     cases E3
     obtain ⟨ce230, hce230, hMe230, hcc230⟩ := Kd.N_get B.out z57 0 f2 (by first | exact g2 | exact z3 | (have e_ := (Kd.N_reads' B.out).1; omega))
     obtain ⟨ua230_0, uc230_0, ua230_1, uc230_1, rfl, ul230_0, ge230_0, ul230_1, ge230_1⟩ := k57_openF hMe230
     have C1 := hcc230 0 _ rfl
     rw [Nat.add_zero] at C1
     replace C1 := z5 (C1.symm.trans A1)
     injection C1 with hva_ hvn_ hvc_
     rw [hva_] at ge230_0
     rw [hvc_] at ul230_0
     have HL230_0 := zK (show Kd.V (Kd.int .i64) 3 _ w.heap.size _ _ ((rd_T57 q 0).f0) from Kd.V_mk ul230_0 ge230_0)
     clear hva_ hvn_ hvc_ ge230_0 ul230_0
     have D1 := hcc230 1 _ rfl
     rw [add_field _ _ 1 (by omega)] at D1
     replace D1 := z5 (D1.symm.trans B1)
     injection D1 with hva_ hvn_ hvc_
     rw [hva_] at ge230_1
     rw [hvc_] at ul230_1
     have HL230_1 := zK (show Kd.V (Kd.int .i64) 3 _ w.heap.size _ _ ((rd_T57 q 0).f1) from Kd.V_mk ul230_1 ge230_1)
     clear hva_ hvn_ hvc_ ge230_1 ul230_1
     clear hcc230 hce230
     have qi230 : (0 < q.length) = True := eq_true (by omega)
     (try rw [show ((0 : Int)).toNat = 0 from rfl] at A1)
     (try rw [show 0 * 2 = 0 from rfl] at A1)
     (try rw [Addr.add_zero'] at A1)
     (try rw [show ((0 : Int)).toNat = 0 from rfl] at B1)
     (try rw [show 0 * 2 = 0 from rfl] at B1)
     (try rw [Addr.add_zero'] at B1)
     have O3 := zK V1
     have R3 := zK U1
     clear V1 U1
     have S3 := zK a2
     have T3 := zK X1
     clear a2 X1
     replace f2 := eq_true f2
     replace g2 := eq_true g2
     go_wp2
     go_ret
     exact ⟨zE, zB⟩
   rw [if_pos S1] at H
   have j3 := z1 S1
   clear S1
   by_cases C2 : 0 ≤ l
   rotate_left
   · rw [if_neg C2] at H
     exact absurd H (by simp)
   rw [if_pos C2] at H
   have S5 := z1 C2
   clear C2
   by_cases D2 : l < (q.length : Int)
   rotate_left
   · rw [if_neg D2] at H
     exact absurd H (by simp)
   rw [if_pos D2] at H
   have T5 := z1 D2
   clear D2
   by_cases b2 : (((rd_T57 q l).f0).length : Int) > 4
   · rw [if_pos b2] at H
     have n3 := z1 b2
     have o3 : decide (4 < ((rd_T57 q l).f0).length) = true := z1 (by omega)
     clear b2
     obtain rfl := z5 H
     have g0 : 0 ≤ (l : Int) := z3
     have i0 : l < (q.length : Int) := z3
     obtain ⟨X, E, I, T, U, O0, D0, E0, b0, c0, d0, e0⟩ := at_T57 (Kd.N_reads' z.out).2.2 l g0 i0
     cases O0
     obtain ⟨ce223, hce223, hMe223, hcc223⟩ := Kd.N_get z.out z57 l g0 (by first | exact i0 | exact z3 | (have e_ := (Kd.N_reads' z.out).1; omega))
     obtain ⟨ua223_0, uc223_0, ua223_1, uc223_1, rfl, ul223_0, ge223_0, ul223_1, ge223_1⟩ := k57_openF hMe223
     have J := hcc223 0 _ rfl
     rw [Nat.add_zero] at J
     replace J := z5 (J.symm.trans D0)
     injection J with hva_ hvn_ hvc_
     rw [hva_] at ge223_0
     rw [hvc_] at ul223_0
     have HL223_0 := zK (show Kd.V (Kd.int .i64) 3 _ w.heap.size _ _ ((rd_T57 q l).f0) from Kd.V_mk ul223_0 ge223_0)
     clear hva_ hvn_ hvc_ ge223_0 ul223_0
     have L := hcc223 1 _ rfl
     rw [add_field _ _ 1 (by omega)] at L
     replace L := z5 (L.symm.trans E0)
     injection L with hva_ hvn_ hvc_
     rw [hva_] at ge223_1
     rw [hvc_] at ul223_1
     have HL223_1 := zK (show Kd.V (Kd.int .i64) 3 _ w.heap.size _ _ ((rd_T57 q l).f1) from Kd.V_mk ul223_1 ge223_1)
     clear hva_ hvn_ hvc_ ge223_1 ul223_1
     clear hcc223 hce223
     have M := zK c0
     have A0 := zK b0
     clear c0 b0
     have O := zK e0
     have B0 := zK d0
     clear e0 d0
     replace g0 := eq_true g0
     replace i0 := eq_true i0
     go_wp2_with (first | ((with_reducible refine gd 5 rfl ?_); (try (refine gate_guard (by rfl) ?_; dsimp only)); refine zJ 5 #[.slice none 0 0, .slice none 0 0] 57 ?_; intro u hg C6 hbox hb; have n0 := zK (Kd.N_below (Kd.N_elderB (zkN B) u (Nat.le_of_eq hg.symm)) hb); have o0 := zK (Kd.N_below (Kd.N_elderB (zkN z) u (Nat.le_of_eq hg.symm)) hb); have p0 := zK (Kd.V_below (Kd.V_elderB (zkV HL223_0) u (Nat.le_of_eq hg.symm)) hb); have q0 := zK (Kd.V_below (Kd.V_elderB (zkV HL223_1) u (Nat.le_of_eq hg.symm)) hb); have t0 := z7 y hb; have x0 := zK (z4 (by repeat (first | (with_reducible exact M.out) | (with_reducible refine Kd.C_alloc ?_ _) | (with_reducible refine Kd.C_drewN ?_ _) | (with_reducible refine Kd.C_drew ?_) | exact M.out)) hb); have y0 := zK (z4 (by repeat (first | (with_reducible exact O.out) | (with_reducible refine Kd.C_alloc ?_ _) | (with_reducible refine Kd.C_drewN ?_ _) | (with_reducible refine Kd.C_drew ?_) | exact O.out)) hb); have T0 := z8 hb; have U0 := zK (hbox); have V0 := z9 hg; have L0 := z9 hg; have R0 := zHH hg y; have S0 := zGG hg y; revert n0 o0 p0 q0 t0 x0 y0 T0 U0 V0 L0 R0 S0; clear B z HL223_0 HL223_1 y M O HB; intro B z HL223_0 HL223_1 y M O HB A l1 m1 j0 m0; clear hb hbox hg; have U5 := m0.out; have V5 := j0.out; obtain ⟨U3, V3, X3, a4⟩ := zc2 A))
     go_ret
     exact ⟨zE, zB⟩
   rw [if_neg b2] at H
   have n3 := z2 b2
   have o3 : decide (4 < ((rd_T57 q l).f0).length) = false := z2 (by omega)
   clear b2
   replace H := z6 H
   obtain ⟨F3, a3, H⟩ := H
   have F1 := zK a3
   clear a3
   by_cases E2 : F3 = true
   rotate_left
   · replace E2 := Bool.eq_false_iff.mpr E2
     subst E2
     rw [if_neg (show ¬ (false = true) by decide)] at H
     obtain rfl := z5 H
     have g0 : 0 ≤ (l : Int) := z3
     have i0 : l < (q.length : Int) := z3
     obtain ⟨X, E, I, T, U, O0, D0, E0, b0, c0, d0, e0⟩ := at_T57 (Kd.N_reads' z.out).2.2 l g0 i0
     cases O0
     obtain ⟨ce223, hce223, hMe223, hcc223⟩ := Kd.N_get z.out z57 l g0 (by first | exact i0 | exact z3 | (have e_ := (Kd.N_reads' z.out).1; omega))
     obtain ⟨ua223_0, uc223_0, ua223_1, uc223_1, rfl, ul223_0, ge223_0, ul223_1, ge223_1⟩ := k57_openF hMe223
     have J := hcc223 0 _ rfl
     rw [Nat.add_zero] at J
     replace J := z5 (J.symm.trans D0)
     injection J with hva_ hvn_ hvc_
     rw [hva_] at ge223_0
     rw [hvc_] at ul223_0
     have HL223_0 := zK (show Kd.V (Kd.int .i64) 3 _ w.heap.size _ _ ((rd_T57 q l).f0) from Kd.V_mk ul223_0 ge223_0)
     clear hva_ hvn_ hvc_ ge223_0 ul223_0
     have L := hcc223 1 _ rfl
     rw [add_field _ _ 1 (by omega)] at L
     replace L := z5 (L.symm.trans E0)
     injection L with hva_ hvn_ hvc_
     rw [hva_] at ge223_1
     rw [hvc_] at ul223_1
     have HL223_1 := zK (show Kd.V (Kd.int .i64) 3 _ w.heap.size _ _ ((rd_T57 q l).f1) from Kd.V_mk ul223_1 ge223_1)
     clear hva_ hvn_ hvc_ ge223_1 ul223_1
     clear hcc223 hce223
     have M := zK c0
     have A0 := zK b0
     clear c0 b0
     have O := zK e0
     have B0 := zK d0
     clear e0 d0
     replace g0 := eq_true g0
     replace i0 := eq_true i0
     go_wp2_with (first | ((with_reducible refine gd 5 rfl ?_); (try (refine gate_guard (by rfl) ?_; dsimp only)); refine zJ 5 #[.slice none 0 0, .slice none 0 0] 57 ?_; intro u hg w64 hbox hb; have n0 := zK (Kd.N_below (Kd.N_elderB (zkN B) u (Nat.le_of_eq hg.symm)) hb); have o0 := zK (Kd.N_below (Kd.N_elderB (zkN z) u (Nat.le_of_eq hg.symm)) hb); have p0 := zK (Kd.V_below (Kd.V_elderB (zkV HL223_0) u (Nat.le_of_eq hg.symm)) hb); have q0 := zK (Kd.V_below (Kd.V_elderB (zkV HL223_1) u (Nat.le_of_eq hg.symm)) hb); have t0 := z7 y hb; have x0 := zK (z4 (by repeat (first | (with_reducible exact M.out) | (with_reducible refine Kd.C_alloc ?_ _) | (with_reducible refine Kd.C_drewN ?_ _) | (with_reducible refine Kd.C_drew ?_) | exact M.out)) hb); have y0 := zK (z4 (by repeat (first | (with_reducible exact O.out) | (with_reducible refine Kd.C_alloc ?_ _) | (with_reducible refine Kd.C_drewN ?_ _) | (with_reducible refine Kd.C_drew ?_) | exact O.out)) hb); have T0 := z8 hb; have U0 := zK (hbox); have V0 := z9 hg; have L0 := z9 hg; have R0 := zHH hg y; have S0 := zGG hg y; revert n0 o0 p0 q0 t0 x0 y0 T0 U0 V0 L0 R0 S0; clear B z HL223_0 HL223_1 y M O HB; intro B z HL223_0 HL223_1 y M O HB A l1 m1 j0 m0; clear hb hbox hg; have X5 := m0.out; have a6 := j0.out; obtain ⟨b4, d4, e4, f4⟩ := zc2 A; obtain ⟨g4, i4, j4, l4⟩ := zc2 y) | (go_at_call 34; (with_reducible refine (impl_allWithin.calls k1 _ _ ((rd_T57 q l).f0) 0 (wrap64 (C0 - 1)) false _ ?side1 ?side2 F1.out).mono ?_); (case side1 => repeat (first | exact ((Kd.V_reads' (Kd.V_mono (zlV (Kd.V_mono HL223_0.out (fun k_ hk => (⟨hk, hk.2⟩ : _ ∧ k_ ≠ u)))) (fun _ h_ => h_.1))).2.2) | (with_reducible refine Kd.C_alloc ?_ _) | (with_reducible refine Kd.C_drewN ?_ _) | (with_reducible refine Kd.C_drew ?_))); (case side2 => exact A0.out); rintro e w' ⟨rfl, ⟨nd, rfl⟩⟩))
     go_ret
     exact ⟨zE, zB⟩
   subst E2
   rw [if_pos rfl] at H
   by_cases L1 : (((rd_T57 q l).f1).length : Int) = C0
   rotate_left
   · rw [if_neg L1] at H
     have p3 := beq_eq_false_iff_ne.mpr L1
     have q3 := bne_iff_ne.mpr L1
     obtain rfl := z5 H
     have g0 : 0 ≤ (l : Int) := z3
     have i0 : l < (q.length : Int) := z3
     obtain ⟨X, E, I, T, U, O0, D0, E0, b0, c0, d0, e0⟩ := at_T57 (Kd.N_reads' z.out).2.2 l g0 i0
     cases O0
     obtain ⟨ce223, hce223, hMe223, hcc223⟩ := Kd.N_get z.out z57 l g0 (by first | exact i0 | exact z3 | (have e_ := (Kd.N_reads' z.out).1; omega))
     obtain ⟨ua223_0, uc223_0, ua223_1, uc223_1, rfl, ul223_0, ge223_0, ul223_1, ge223_1⟩ := k57_openF hMe223
     have J := hcc223 0 _ rfl
     rw [Nat.add_zero] at J
     replace J := z5 (J.symm.trans D0)
     injection J with hva_ hvn_ hvc_
     rw [hva_] at ge223_0
     rw [hvc_] at ul223_0
     have HL223_0 := zK (show Kd.V (Kd.int .i64) 3 _ w.heap.size _ _ ((rd_T57 q l).f0) from Kd.V_mk ul223_0 ge223_0)
     clear hva_ hvn_ hvc_ ge223_0 ul223_0
     have L := hcc223 1 _ rfl
     rw [add_field _ _ 1 (by omega)] at L
     replace L := z5 (L.symm.trans E0)
     injection L with hva_ hvn_ hvc_
     rw [hva_] at ge223_1
     rw [hvc_] at ul223_1
     have HL223_1 := zK (show Kd.V (Kd.int .i64) 3 _ w.heap.size _ _ ((rd_T57 q l).f1) from Kd.V_mk ul223_1 ge223_1)
     clear hva_ hvn_ hvc_ ge223_1 ul223_1
     clear hcc223 hce223
     have M := zK c0
     have A0 := zK b0
     clear c0 b0
     have O := zK e0
     have B0 := zK d0
     clear e0 d0
     replace g0 := eq_true g0
     replace i0 := eq_true i0
     go_wp2_with (first | ((with_reducible refine gd 5 rfl ?_); (try (refine gate_guard (by rfl) ?_; dsimp only)); refine zJ 5 #[.slice none 0 0, .slice none 0 0] 57 ?_; intro u hg D6 hbox hb; have n0 := zK (Kd.N_below (Kd.N_elderB (zkN B) u (Nat.le_of_eq hg.symm)) hb); have o0 := zK (Kd.N_below (Kd.N_elderB (zkN z) u (Nat.le_of_eq hg.symm)) hb); have p0 := zK (Kd.V_below (Kd.V_elderB (zkV HL223_0) u (Nat.le_of_eq hg.symm)) hb); have q0 := zK (Kd.V_below (Kd.V_elderB (zkV HL223_1) u (Nat.le_of_eq hg.symm)) hb); have t0 := z7 y hb; have x0 := zK (z4 (by repeat (first | (with_reducible exact M.out) | (with_reducible refine Kd.C_alloc ?_ _) | (with_reducible refine Kd.C_drewN ?_ _) | (with_reducible refine Kd.C_drew ?_) | exact M.out)) hb); have y0 := zK (z4 (by repeat (first | (with_reducible exact O.out) | (with_reducible refine Kd.C_alloc ?_ _) | (with_reducible refine Kd.C_drewN ?_ _) | (with_reducible refine Kd.C_drew ?_) | exact O.out)) hb); have T0 := z8 hb; have U0 := zK (hbox); have V0 := z9 hg; have L0 := z9 hg; have R0 := zHH hg y; have S0 := zGG hg y; revert n0 o0 p0 q0 t0 x0 y0 T0 U0 V0 L0 R0 S0; clear B z HL223_0 HL223_1 y M O HB; intro B z HL223_0 HL223_1 y M O HB A l1 m1 j0 m0; clear hb hbox hg; have b6 := m0.out; have c6 := j0.out; obtain ⟨m4, n4, o4, p4⟩ := zc2 A; obtain ⟨q4, s4, t4, x4⟩ := zc2 y) | (go_at_call 34; (with_reducible refine (impl_allWithin.calls k1 _ _ ((rd_T57 q l).f0) 0 (wrap64 (C0 - 1)) true _ ?side1 ?side2 F1.out).mono ?_); (case side1 => repeat (first | exact ((Kd.V_reads' (Kd.V_mono (zlV (Kd.V_mono HL223_0.out (fun k_ hk => (⟨hk, hk.2⟩ : _ ∧ k_ ≠ u)))) (fun _ h_ => h_.1))).2.2) | (with_reducible refine Kd.C_alloc ?_ _) | (with_reducible refine Kd.C_drewN ?_ _) | (with_reducible refine Kd.C_drew ?_))); (case side2 => exact A0.out); rintro e w' ⟨rfl, ⟨nd, rfl⟩⟩))
     go_ret
     exact ⟨zE, zB⟩
   rw [if_pos L1] at H
   have p3 := beq_iff_eq.mpr L1
   have q3 := bne_eq_false_iff_eq.mpr L1
   clear L1
   replace H := z6 H
   obtain ⟨G3, b3, H⟩ := H
   have c2 := zK b3
   clear b3
   by_cases F2 : G3 = true
   rotate_left
   · replace F2 := Bool.eq_false_iff.mpr F2
     subst F2
     rw [if_neg (show ¬ (false = true) by decide)] at H
     obtain rfl := z5 H
     have g0 : 0 ≤ (l : Int) := z3
     have i0 : l < (q.length : Int) := z3
     obtain ⟨X, E, I, T, U, O0, D0, E0, b0, c0, d0, e0⟩ := at_T57 (Kd.N_reads' z.out).2.2 l g0 i0
     cases O0
     obtain ⟨ce223, hce223, hMe223, hcc223⟩ := Kd.N_get z.out z57 l g0 (by first | exact i0 | exact z3 | (have e_ := (Kd.N_reads' z.out).1; omega))
     obtain ⟨ua223_0, uc223_0, ua223_1, uc223_1, rfl, ul223_0, ge223_0, ul223_1, ge223_1⟩ := k57_openF hMe223
     have J := hcc223 0 _ rfl
     rw [Nat.add_zero] at J
     replace J := z5 (J.symm.trans D0)
     injection J with hva_ hvn_ hvc_
     rw [hva_] at ge223_0
     rw [hvc_] at ul223_0
     have HL223_0 := zK (show Kd.V (Kd.int .i64) 3 _ w.heap.size _ _ ((rd_T57 q l).f0) from Kd.V_mk ul223_0 ge223_0)
     clear hva_ hvn_ hvc_ ge223_0 ul223_0
     have L := hcc223 1 _ rfl
     rw [add_field _ _ 1 (by omega)] at L
     replace L := z5 (L.symm.trans E0)
     injection L with hva_ hvn_ hvc_
     rw [hva_] at ge223_1
     rw [hvc_] at ul223_1
     have HL223_1 := zK (show Kd.V (Kd.int .i64) 3 _ w.heap.size _ _ ((rd_T57 q l).f1) from Kd.V_mk ul223_1 ge223_1)
     clear hva_ hvn_ hvc_ ge223_1 ul223_1
     clear hcc223 hce223
     have M := zK c0
     have A0 := zK b0
     clear c0 b0
     have O := zK e0
     have B0 := zK d0
     clear e0 d0
     replace g0 := eq_true g0
     replace i0 := eq_true i0
     go_wp2_with (first | ((with_reducible refine gd 5 rfl ?_); (try (refine gate_guard (by rfl) ?_; dsimp only)); refine zJ 5 #[.slice none 0 0, .slice none 0 0] 57 ?_; intro u hg E6 hbox hb; have n0 := zK (Kd.N_below (Kd.N_elderB (zkN B) u (Nat.le_of_eq hg.symm)) hb); have o0 := zK (Kd.N_below (Kd.N_elderB (zkN z) u (Nat.le_of_eq hg.symm)) hb); have p0 := zK (Kd.V_below (Kd.V_elderB (zkV HL223_0) u (Nat.le_of_eq hg.symm)) hb); have q0 := zK (Kd.V_below (Kd.V_elderB (zkV HL223_1) u (Nat.le_of_eq hg.symm)) hb); have t0 := z7 y hb; have x0 := zK (z4 (by repeat (first | (with_reducible exact M.out) | (with_reducible refine Kd.C_alloc ?_ _) | (with_reducible refine Kd.C_drewN ?_ _) | (with_reducible refine Kd.C_drew ?_) | exact M.out)) hb); have y0 := zK (z4 (by repeat (first | (with_reducible exact O.out) | (with_reducible refine Kd.C_alloc ?_ _) | (with_reducible refine Kd.C_drewN ?_ _) | (with_reducible refine Kd.C_drew ?_) | exact O.out)) hb); have T0 := z8 hb; have U0 := zK (hbox); have V0 := z9 hg; have L0 := z9 hg; have R0 := zHH hg y; have S0 := zGG hg y; revert n0 o0 p0 q0 t0 x0 y0 T0 U0 V0 L0 R0 S0; clear B z HL223_0 HL223_1 y M O HB; intro B z HL223_0 HL223_1 y M O HB A l1 m1 j0 m0; clear hb hbox hg; have d6 := m0.out; have e6 := j0.out; obtain ⟨y4, A4, B4, C4⟩ := zc2 A; obtain ⟨D4, E4, F4, G4⟩ := zc2 y) | (go_at_call 34; (with_reducible refine (impl_allWithin.calls k1 _ _ ((rd_T57 q l).f0) 0 (wrap64 (C0 - 1)) true _ ?side1 ?side2 F1.out).mono ?_); (case side1 => repeat (first | exact ((Kd.V_reads' (Kd.V_mono (zlV (Kd.V_mono HL223_0.out (fun k_ hk => (⟨hk, hk.2⟩ : _ ∧ k_ ≠ u)))) (fun _ h_ => h_.1))).2.2) | (with_reducible refine Kd.C_alloc ?_ _) | (with_reducible refine Kd.C_drewN ?_ _) | (with_reducible refine Kd.C_drew ?_))); (case side2 => exact A0.out); rintro e w' ⟨rfl, ⟨nd, rfl⟩⟩) | (go_at_call 34; (with_reducible refine (impl_allWithin.calls k1 _ _ ((rd_T57 q l).f1) 0 1000 false _ ?side1 ?side2 c2.out).mono ?_); (case side1 => repeat (first | exact ((Kd.V_reads' (Kd.V_mono (zlV (Kd.V_mono HL223_1.out (fun k_ hk => (⟨hk, hk.2⟩ : _ ∧ k_ ≠ u)))) (fun _ h_ => h_.1))).2.2) | (with_reducible refine Kd.C_alloc ?_ _) | (with_reducible refine Kd.C_drewN ?_ _) | (with_reducible refine Kd.C_drew ?_))); (case side2 => exact B0.out); rintro e w' ⟨rfl, ⟨nd, rfl⟩⟩))
     go_ret
     exact ⟨zE, zB⟩
   subst F2
   rw [if_pos rfl] at H
   replace H := z6 H
   obtain ⟨I3, d3, H⟩ := H
   have j2 := zK d3
   clear d3
   by_cases G2 : I3 = true
   · subst G2
     rw [if_pos rfl] at H
     obtain rfl := z5 H
     have g0 : 0 ≤ (l : Int) := z3
     have i0 : l < (q.length : Int) := z3
     obtain ⟨X, E, I, T, U, O0, D0, E0, b0, c0, d0, e0⟩ := at_T57 (Kd.N_reads' z.out).2.2 l g0 i0
     cases O0
     obtain ⟨ce223, hce223, hMe223, hcc223⟩ := Kd.N_get z.out z57 l g0 (by first | exact i0 | exact z3 | (have e_ := (Kd.N_reads' z.out).1; omega))
     obtain ⟨ua223_0, uc223_0, ua223_1, uc223_1, rfl, ul223_0, ge223_0, ul223_1, ge223_1⟩ := k57_openF hMe223
     have J := hcc223 0 _ rfl
     rw [Nat.add_zero] at J
     replace J := z5 (J.symm.trans D0)
     injection J with hva_ hvn_ hvc_
     rw [hva_] at ge223_0
     rw [hvc_] at ul223_0
     have HL223_0 := zK (show Kd.V (Kd.int .i64) 3 _ w.heap.size _ _ ((rd_T57 q l).f0) from Kd.V_mk ul223_0 ge223_0)
     clear hva_ hvn_ hvc_ ge223_0 ul223_0
     have L := hcc223 1 _ rfl
     rw [add_field _ _ 1 (by omega)] at L
     replace L := z5 (L.symm.trans E0)
     injection L with hva_ hvn_ hvc_
     rw [hva_] at ge223_1
     rw [hvc_] at ul223_1
     have HL223_1 := zK (show Kd.V (Kd.int .i64) 3 _ w.heap.size _ _ ((rd_T57 q l).f1) from Kd.V_mk ul223_1 ge223_1)
     clear hva_ hvn_ hvc_ ge223_1 ul223_1
     clear hcc223 hce223
     have M := zK c0
     have A0 := zK b0
     clear c0 b0
     have O := zK e0
     have B0 := zK d0
     clear e0 d0
     replace g0 := eq_true g0
     replace i0 := eq_true i0
     go_wp2_with (first | ((with_reducible refine gd 5 rfl ?_); (try (refine gate_guard (by rfl) ?_; dsimp only)); refine zJ 5 #[.slice none 0 0, .slice none 0 0] 57 ?_; intro u hg F6 hbox hb; have n0 := zK (Kd.N_below (Kd.N_elderB (zkN B) u (Nat.le_of_eq hg.symm)) hb); have o0 := zK (Kd.N_below (Kd.N_elderB (zkN z) u (Nat.le_of_eq hg.symm)) hb); have p0 := zK (Kd.V_below (Kd.V_elderB (zkV HL223_0) u (Nat.le_of_eq hg.symm)) hb); have q0 := zK (Kd.V_below (Kd.V_elderB (zkV HL223_1) u (Nat.le_of_eq hg.symm)) hb); have t0 := z7 y hb; have x0 := zK (z4 (by repeat (first | (with_reducible exact M.out) | (with_reducible refine Kd.C_alloc ?_ _) | (with_reducible refine Kd.C_drewN ?_ _) | (with_reducible refine Kd.C_drew ?_) | exact M.out)) hb); have y0 := zK (z4 (by repeat (first | (with_reducible exact O.out) | (with_reducible refine Kd.C_alloc ?_ _) | (with_reducible refine Kd.C_drewN ?_ _) | (with_reducible refine Kd.C_drew ?_) | exact O.out)) hb); have T0 := z8 hb; have U0 := zK (hbox); have V0 := z9 hg; have L0 := z9 hg; have R0 := zHH hg y; have S0 := zGG hg y; revert n0 o0 p0 q0 t0 x0 y0 T0 U0 V0 L0 R0 S0; clear B z HL223_0 HL223_1 y M O HB; intro B z HL223_0 HL223_1 y M O HB A l1 m1 j0 m0; clear hb hbox hg; have f6 := m0.out; have g6 := j0.out; obtain ⟨I4, J4, L4, M4⟩ := zc2 A; obtain ⟨N4, O4, R4, S4⟩ := zc2 y) | (go_at_call 34; (with_reducible refine (impl_allWithin.calls k1 _ _ ((rd_T57 q l).f0) 0 (wrap64 (C0 - 1)) true _ ?side1 ?side2 F1.out).mono ?_); (case side1 => repeat (first | exact ((Kd.V_reads' (Kd.V_mono (zlV (Kd.V_mono HL223_0.out (fun k_ hk => (⟨hk, hk.2⟩ : _ ∧ k_ ≠ u)))) (fun _ h_ => h_.1))).2.2) | (with_reducible refine Kd.C_alloc ?_ _) | (with_reducible refine Kd.C_drewN ?_ _) | (with_reducible refine Kd.C_drew ?_))); (case side2 => exact A0.out); rintro e w' ⟨rfl, ⟨nd, rfl⟩⟩) | (go_at_call 34; (with_reducible refine (impl_allWithin.calls k1 _ _ ((rd_T57 q l).f1) 0 1000 true _ ?side1 ?side2 c2.out).mono ?_); (case side1 => repeat (first | exact ((Kd.V_reads' (Kd.V_mono (zlV (Kd.V_mono HL223_1.out (fun k_ hk => (⟨hk, hk.2⟩ : _ ∧ k_ ≠ u)))) (fun _ h_ => h_.1))).2.2) | (with_reducible refine Kd.C_alloc ?_ _) | (with_reducible refine Kd.C_drewN ?_ _) | (with_reducible refine Kd.C_drew ?_))); (case side2 => exact B0.out); rintro e w' ⟨rfl, ⟨nd, rfl⟩⟩) | (go_at_call 35; (with_reducible refine (impl_all.calls k1 _ _ ((rd_T57 q l).f1) 0 true _ ?side1 ?side2 j2.out).mono ?_); (case side1 => repeat (first | exact ((Kd.V_reads' (Kd.V_mono (zlV (Kd.V_mono HL223_1.out (fun k_ hk => (⟨hk, hk.2⟩ : _ ∧ k_ ≠ u)))) (fun _ h_ => h_.1))).2.2) | (with_reducible refine Kd.C_alloc ?_ _) | (with_reducible refine Kd.C_drewN ?_ _) | (with_reducible refine Kd.C_drew ?_))); (case side2 => exact B0.out); rintro e w' ⟨rfl, ⟨nd, rfl⟩⟩))
     go_ret
     exact ⟨zE, zB⟩
   replace G2 := Bool.eq_false_iff.mpr G2
   subst G2
   rw [if_neg (show ¬ (false = true) by decide)] at H
   by_cases d2 : l > 0
   rotate_left
   · rw [if_neg d2] at H
     have t3 := z2 d2
     clear d2
     have H' := zK H
     clear H
     have g0 : 0 ≤ (l : Int) := z3
     have i0 : l < (q.length : Int) := z3
     obtain ⟨X, E, I, T, U, O0, D0, E0, b0, c0, d0, e0⟩ := at_T57 (Kd.N_reads' z.out).2.2 l g0 i0
     cases O0
     obtain ⟨ce223, hce223, hMe223, hcc223⟩ := Kd.N_get z.out z57 l g0 (by first | exact i0 | exact z3 | (have e_ := (Kd.N_reads' z.out).1; omega))
     obtain ⟨ua223_0, uc223_0, ua223_1, uc223_1, rfl, ul223_0, ge223_0, ul223_1, ge223_1⟩ := k57_openF hMe223
     have J := hcc223 0 _ rfl
     rw [Nat.add_zero] at J
     replace J := z5 (J.symm.trans D0)
     injection J with hva_ hvn_ hvc_
     rw [hva_] at ge223_0
     rw [hvc_] at ul223_0
     have HL223_0 := zK (show Kd.V (Kd.int .i64) 3 _ w.heap.size _ _ ((rd_T57 q l).f0) from Kd.V_mk ul223_0 ge223_0)
     clear hva_ hvn_ hvc_ ge223_0 ul223_0
     have L := hcc223 1 _ rfl
     rw [add_field _ _ 1 (by omega)] at L
     replace L := z5 (L.symm.trans E0)
     injection L with hva_ hvn_ hvc_
     rw [hva_] at ge223_1
     rw [hvc_] at ul223_1
     have HL223_1 := zK (show Kd.V (Kd.int .i64) 3 _ w.heap.size _ _ ((rd_T57 q l).f1) from Kd.V_mk ul223_1 ge223_1)
     clear hva_ hvn_ hvc_ ge223_1 ul223_1
     clear hcc223 hce223
     have M := zK c0
     have A0 := zK b0
     clear c0 b0
     have O := zK e0
     have B0 := zK d0
     clear e0 d0
     replace g0 := eq_true g0
     replace i0 := eq_true i0
     try go_wp2_with (first | ((with_reducible refine gd 5 rfl ?_); (try (refine gate_guard (by rfl) ?_; dsimp only)); refine zJ 5 #[.slice none 0 0, .slice none 0 0] 57 ?_; intro u hg G1 hbox hb; have n0 := zK (Kd.N_below (Kd.N_elderB (zkN B) u (Nat.le_of_eq hg.symm)) hb); have o0 := zK (Kd.N_below (Kd.N_elderB (zkN z) u (Nat.le_of_eq hg.symm)) hb); have p0 := zK (Kd.V_below (Kd.V_elderB (zkV HL223_0) u (Nat.le_of_eq hg.symm)) hb); have q0 := zK (Kd.V_below (Kd.V_elderB (zkV HL223_1) u (Nat.le_of_eq hg.symm)) hb); have t0 := z7 y hb; have x0 := zK (z4 (by repeat (first | (with_reducible exact M.out) | (with_reducible refine Kd.C_alloc ?_ _) | (with_reducible refine Kd.C_drewN ?_ _) | (with_reducible refine Kd.C_drew ?_) | exact M.out)) hb); have y0 := zK (z4 (by repeat (first | (with_reducible exact O.out) | (with_reducible refine Kd.C_alloc ?_ _) | (with_reducible refine Kd.C_drewN ?_ _) | (with_reducible refine Kd.C_drew ?_) | exact O.out)) hb); have T0 := z8 hb; have U0 := zK (hbox); have V0 := z9 hg; have L0 := z9 hg; have R0 := zHH hg y; have S0 := zGG hg y; revert n0 o0 p0 q0 t0 x0 y0 T0 U0 V0 L0 R0 S0; clear B z HL223_0 HL223_1 y M O HB; intro B z HL223_0 HL223_1 y M O HB A l1 m1 j0 m0; clear hb hbox hg; have i6 := m0.out; have j6 := j0.out; obtain ⟨T4, U4, V4, X4⟩ := zc2 A; obtain ⟨a5, b5, c5, d5⟩ := zc2 y) | (go_at_call 34; (with_reducible refine (impl_allWithin.calls k1 _ _ ((rd_T57 q l).f0) 0 (wrap64 (C0 - 1)) true _ ?side1 ?side2 F1.out).mono ?_); (case side1 => repeat (first | exact ((Kd.V_reads' (Kd.V_mono (zlV (Kd.V_mono HL223_0.out (fun k_ hk => (⟨hk, hk.2⟩ : _ ∧ k_ ≠ u)))) (fun _ h_ => h_.1))).2.2) | (with_reducible refine Kd.C_alloc ?_ _) | (with_reducible refine Kd.C_drewN ?_ _) | (with_reducible refine Kd.C_drew ?_))); (case side2 => exact A0.out); rintro e w' ⟨rfl, ⟨nd, rfl⟩⟩) | (go_at_call 34; (with_reducible refine (impl_allWithin.calls k1 _ _ ((rd_T57 q l).f1) 0 1000 true _ ?side1 ?side2 c2.out).mono ?_); (case side1 => repeat (first | exact ((Kd.V_reads' (Kd.V_mono (zlV (Kd.V_mono HL223_1.out (fun k_ hk => (⟨hk, hk.2⟩ : _ ∧ k_ ≠ u)))) (fun _ h_ => h_.1))).2.2) | (with_reducible refine Kd.C_alloc ?_ _) | (with_reducible refine Kd.C_drewN ?_ _) | (with_reducible refine Kd.C_drew ?_))); (case side2 => exact B0.out); rintro e w' ⟨rfl, ⟨nd, rfl⟩⟩) | (go_at_call 35; (with_reducible refine (impl_all.calls k1 _ _ ((rd_T57 q l).f1) 0 false _ ?side1 ?side2 j2.out).mono ?_); (case side1 => repeat (first | exact ((Kd.V_reads' (Kd.V_mono (zlV (Kd.V_mono HL223_1.out (fun k_ hk => (⟨hk, hk.2⟩ : _ ∧ k_ ≠ u)))) (fun _ h_ => h_.1))).2.2) | (with_reducible refine Kd.C_alloc ?_ _) | (with_reducible refine Kd.C_drewN ?_ _) | (with_reducible refine Kd.C_drew ?_))); (case side2 => exact B0.out); rintro e w' ⟨rfl, ⟨nd, rfl⟩⟩))
     have n0 : Aside0 (Kd.N k57 57 ((G1.setCell ⟨u, 0, none⟩ (.slice E ((rd_T57 q l).f0).length I)).setCell ⟨u, 1, none⟩ (.slice T ((rd_T57 q l).f1).length U)) w.heap.size (fun k_ => k_ ≠ a0 ∧ k_ ≠ u) (.slice (some X) q.length G0) q) := ⟨Kd.N_mono (zlN (Kd.N_mono B.out (fun k_ hk => (⟨hk, hk.2⟩ : _ ∧ k_ ≠ u)))) (fun _ hk => ⟨hk.1.1, hk.1.2⟩)⟩
     have o0 : Aside0 (Kd.N k57 57 ((G1.setCell ⟨u, 0, none⟩ (.slice E ((rd_T57 q l).f0).length I)).setCell ⟨u, 1, none⟩ (.slice T ((rd_T57 q l).f1).length U)) w.heap.size (fun k_ => k_ ≠ a0 ∧ k_ ≠ u) (.slice (some X) q.length G0) q) := ⟨Kd.N_mono (zlN (Kd.N_mono z.out (fun k_ hk => (⟨hk, hk.2⟩ : _ ∧ k_ ≠ u)))) (fun _ hk => ⟨hk.1.1, hk.1.2⟩)⟩
     have p0 : Aside0 (Kd.V (Kd.int .i64) 3 ((G1.setCell ⟨u, 0, none⟩ (.slice E ((rd_T57 q l).f0).length I)).setCell ⟨u, 1, none⟩ (.slice T ((rd_T57 q l).f1).length U)) w.heap.size (fun k_ => some k_ ≠ (.slice (some X) q.length G0 : Value).ownBlock ∧ k_ ≠ a0 ∧ k_ ≠ u) (.slice E ((rd_T57 q l).f0).length I) ((rd_T57 q l).f0)) := ⟨Kd.V_mono (zlV (Kd.V_mono HL223_0.out (fun k_ hk => (⟨hk, hk.2⟩ : _ ∧ k_ ≠ u)))) (fun _ hk => ⟨hk.1.1.2, ⟨hk.1.1.1, hk.1.2⟩⟩)⟩
     have q0 : Aside0 (Kd.V (Kd.int .i64) 3 ((G1.setCell ⟨u, 0, none⟩ (.slice E ((rd_T57 q l).f0).length I)).setCell ⟨u, 1, none⟩ (.slice T ((rd_T57 q l).f1).length U)) w.heap.size (fun k_ => some k_ ≠ (.slice (some X) q.length G0 : Value).ownBlock ∧ k_ ≠ a0 ∧ k_ ≠ u) (.slice T ((rd_T57 q l).f1).length U) ((rd_T57 q l).f1)) := ⟨Kd.V_mono (zlV (Kd.V_mono HL223_1.out (fun k_ hk => (⟨hk, hk.2⟩ : _ ∧ k_ ≠ u)))) (fun _ hk => ⟨hk.1.1.2, ⟨hk.1.1.1, hk.1.2⟩⟩)⟩
     have t0 : Aside0 (((G1.setCell ⟨u, 0, none⟩ (.slice E ((rd_T57 q l).f0).length I)).setCell ⟨u, 1, none⟩ (.slice T ((rd_T57 q l).f1).length U)).heap[a0]? = some (.cells #[.int .i64 C0, .slice b1 I0.length d1] 29 (0, 0))) := ⟨zV y⟩
     have x0 : Aside0 (((G1.setCell ⟨u, 0, none⟩ (.slice E ((rd_T57 q l).f0).length I)).setCell ⟨u, 1, none⟩ (.slice T ((rd_T57 q l).f1).length U)).heap[u]? = some (.cells #[.slice E ((rd_T57 q l).f0).length I, .slice T ((rd_T57 q l).f1).length U] 57 (0, 0))) := ⟨zW A⟩
     have y0 : Aside0 (Below w.heap.size w ((G1.setCell ⟨u, 0, none⟩ (.slice E ((rd_T57 q l).f0).length I)).setCell ⟨u, 1, none⟩ (.slice T ((rd_T57 q l).f1).length U))) := ⟨zB⟩
     (try clear B)
     (try clear z)
     (try clear HL223_0)
     (try clear HL223_1)
     (try clear y)
     (try clear A)
     (try clear HB)
     generalize ((G1.setCell ⟨u, 0, none⟩ (.slice E ((rd_T57 q l).f0).length I)).setCell ⟨u, 1, none⟩ (.slice T ((rd_T57 q l).f1).length U)) = p1 at n0 o0 p0 q0 t0 x0 y0 ⊢
     revert n0 o0 p0 q0 t0 x0 y0
     intro B z HL223_0 HL223_1 y A HB
     (try (rw [drewN_self p1]; generalize hq_ : World.drewN p1 _ = p1; have n0 : Aside0 (Kd.V (Kd.int .i64) 3 p1 w.heap.size (fun k_ => some k_ ≠ (.slice (some X) q.length G0 : Value).ownBlock ∧ k_ ≠ a0 ∧ k_ ≠ u) (.slice E ((rd_T57 q l).f0).length I) ((rd_T57 q l).f0)) := ⟨by rw [← hq_]; exact (zkV HL223_0)⟩; have o0 : Aside0 (Kd.V (Kd.int .i64) 3 p1 w.heap.size (fun k_ => some k_ ≠ (.slice (some X) q.length G0 : Value).ownBlock ∧ k_ ≠ a0 ∧ k_ ≠ u) (.slice T ((rd_T57 q l).f1).length U) ((rd_T57 q l).f1)) := ⟨by rw [← hq_]; exact (zkV HL223_1)⟩; have p0 : Aside0 (Kd.N k57 57 p1 w.heap.size (fun k_ => k_ ≠ a0 ∧ k_ ≠ u) (.slice (some X) q.length G0) q) := ⟨by rw [← hq_]; exact (zkN z)⟩; have q0 : Aside0 (Kd.N k57 57 p1 w.heap.size (fun k_ => k_ ≠ a0 ∧ k_ ≠ u) (.slice (some X) q.length G0) q) := ⟨by rw [← hq_]; exact (zkN B)⟩; have t0 : Aside0 (p1.heap[a0]? = some (.cells #[.int .i64 C0, .slice b1 I0.length d1] 29 (0, 0))) := ⟨by rw [← hq_]; exact (zM y)⟩; have x0 : Aside0 (p1.heap[u]? = some (.cells #[.slice E ((rd_T57 q l).f0).length I, .slice T ((rd_T57 q l).f1).length U] 57 (0, 0))) := ⟨by rw [← hq_]; exact (zM A)⟩; have y0 : Aside0 (Below w.heap.size w p1) := ⟨by rw [← hq_]; exact zB⟩; clear HL223_0 HL223_1 z B y A HB hq_; revert n0 o0 p0 q0 t0 x0 y0; intro HL223_0 HL223_1 z B y A HB))
     have n0 := zK (Kd.N_drew B.out)
     have o0 := zK (Kd.N_drew z.out)
     have p0 := zK (Kd.V_drew HL223_0.out)
     have q0 := zK (Kd.V_drew HL223_1.out)
     have t0 := zK (zd y.out)
     have x0 := zK (zd A.out)
     have y0 := zK (ze HB.out)
     revert n0 o0 p0 q0 t0 x0 y0
     clear B z HL223_0 HL223_1 y A HB
     intro B z HL223_0 HL223_1 y A HB
     refine start_ (n := 14) (S := fun w' => True) (ds := []) (bl 14 0) (by kernel_rfl) rfl (by kernel_rfl) trivial (fun hHeld => ?_); refine with_tabW impl_LmOk.tab9 impl_LmOk.bits9 (fun HT_ HW_ => ?_)
     generalize p1.drew = G6 at B z HL223_0 HL223_1 y A HB hHeld ⊢
     refine zP 0 57 (bl 14 1) HT_ ?_
     refine zP 1 58 (bl 14 3) HT_ ?_
     refine zP 2 59 (bl 14 7) HT_ ?_
     refine zO 3 60 (bl 14 15) HT_ ?_
     refine zO 4 61 (bl 14 31) HT_ ?_
     refine zO 5 62 (bl 14 63) HT_ ?_
     refine zO 6 63 (bl 14 127) HT_ ?_
     refine zO 7 64 (bl 14 255) HT_ ?_
     refine zO 8 65 (bl 14 511) HT_ ?_
     refine zO 9 66 (bl 14 1023) HT_ ?_
     refine zO 10 67 (bl 14 2047) HT_ ?_
     refine zO 11 68 (bl 14 4095) HT_ ?_
     refine zO 12 69 (bl 14 8191) HT_ ?_
     refine zP 13 70 (bl 14 16383) HT_ ?_
     refine done_ (done_of HT_.out (by kernel_rfl)) ?_
     try go_wp2
     go_roundg k1
     case measure => have := y2.out; omega
     case rel => exact ⟨(wrap64 (l + 1)), zR, H', ⟨by have := y2.out; omega⟩, ⟨Kd.N_mono (zlN B.out) (fun _ hk => hk.1)⟩, ⟨Kd.N_mono (zlN z.out) (fun _ hk => hk.1)⟩, ⟨zM y⟩, ⟨zB⟩⟩
   rw [if_pos d2] at H
   have t3 := z1 d2
   clear d2
   obtain ⟨ji31, hji31⟩ : ∃ j_ : Int, (wrap64 (l - 1)) = j_ := ⟨_, rfl⟩
   replace H : (if 0 ≤ (ji31) then (if (ji31) < (q.length : Int) then ((impl_byKey.f k1 ((rd_T57 q (ji31)).f0) ((rd_T57 q l).f0)).bind fun M1 => (if M1 = 0 then (some false) else (impl_LmOk.l0 k1 q q (q.length : Int) (wrap64 (l + 1)) C0 I0))) else (none)) else (none)) = some r := by first | (rw [hji31] at H; exact H) | (simp only [hji31] at H ⊢; exact H)
   (try rw [hji31] at F1)
   (try rw [hji31] at c2)
   (try rw [hji31] at j2)
   have hji31w : (IntKind.i64.wrap (l - 1)) = ji31 := (i64_w _).trans hji31
   by_cases I2 : 0 ≤ (ji31)
   rotate_left
   · rw [if_neg I2] at H
     exact absurd H (by simp)
   rw [if_pos I2] at H
   have l6 := z1 I2
   clear I2
   by_cases J2 : (ji31) < (q.length : Int)
   rotate_left
   · rw [if_neg J2] at H
     exact absurd H (by simp)
   rw [if_pos J2] at H
   have m6 := z1 J2
   clear J2
   replace H := z6 H
   obtain ⟨M1, e3, H⟩ := H
   have C3 := zK e3
   clear e3
   by_cases N1 : M1 = 0
   · rw [if_pos N1] at H
     have x3 := beq_iff_eq.mpr N1
     have y3 := bne_eq_false_iff_eq.mpr N1
     clear N1
     obtain rfl := z5 H
     have g0 : 0 ≤ (l : Int) := z3
     have i0 : l < (q.length : Int) := z3
     obtain ⟨X, E, I, T, U, O0, D0, E0, b0, c0, d0, e0⟩ := at_T57 (Kd.N_reads' z.out).2.2 l g0 i0
     cases O0
     obtain ⟨ce223, hce223, hMe223, hcc223⟩ := Kd.N_get z.out z57 l g0 (by first | exact i0 | exact z3 | (have e_ := (Kd.N_reads' z.out).1; omega))
     obtain ⟨ua223_0, uc223_0, ua223_1, uc223_1, rfl, ul223_0, ge223_0, ul223_1, ge223_1⟩ := k57_openF hMe223
     have J := hcc223 0 _ rfl
     rw [Nat.add_zero] at J
     replace J := z5 (J.symm.trans D0)
     injection J with hva_ hvn_ hvc_
     rw [hva_] at ge223_0
     rw [hvc_] at ul223_0
     have HL223_0 := zK (show Kd.V (Kd.int .i64) 3 _ w.heap.size _ _ ((rd_T57 q l).f0) from Kd.V_mk ul223_0 ge223_0)
     clear hva_ hvn_ hvc_ ge223_0 ul223_0
     have L := hcc223 1 _ rfl
     rw [add_field _ _ 1 (by omega)] at L
     replace L := z5 (L.symm.trans E0)
     injection L with hva_ hvn_ hvc_
     rw [hva_] at ge223_1
     rw [hvc_] at ul223_1
     have HL223_1 := zK (show Kd.V (Kd.int .i64) 3 _ w.heap.size _ _ ((rd_T57 q l).f1) from Kd.V_mk ul223_1 ge223_1)
     clear hva_ hvn_ hvc_ ge223_1 ul223_1
     clear hcc223 hce223
     have M := zK c0
     have A0 := zK b0
     clear c0 b0
     have O := zK e0
     have B0 := zK d0
     clear e0 d0
     replace g0 := eq_true g0
     replace i0 := eq_true i0
     try go_wp2_with (first | ((with_reducible refine gd 5 rfl ?_); (try (refine gate_guard (by rfl) ?_; dsimp only)); refine zJ 5 #[.slice none 0 0, .slice none 0 0] 57 ?_; intro u hg I1 hbox hb; have n0 := zK (Kd.N_below (Kd.N_elderB (zkN B) u (Nat.le_of_eq hg.symm)) hb); have o0 := zK (Kd.N_below (Kd.N_elderB (zkN z) u (Nat.le_of_eq hg.symm)) hb); have p0 := zK (Kd.V_below (Kd.V_elderB (zkV HL223_0) u (Nat.le_of_eq hg.symm)) hb); have q0 := zK (Kd.V_below (Kd.V_elderB (zkV HL223_1) u (Nat.le_of_eq hg.symm)) hb); have t0 := z7 y hb; have x0 := zK (z4 (by repeat (first | (with_reducible exact M.out) | (with_reducible refine Kd.C_alloc ?_ _) | (with_reducible refine Kd.C_drewN ?_ _) | (with_reducible refine Kd.C_drew ?_) | exact M.out)) hb); have y0 := zK (z4 (by repeat (first | (with_reducible exact O.out) | (with_reducible refine Kd.C_alloc ?_ _) | (with_reducible refine Kd.C_drewN ?_ _) | (with_reducible refine Kd.C_drew ?_) | exact O.out)) hb); have T0 := z8 hb; have U0 := zK (hbox); have V0 := z9 hg; have L0 := z9 hg; have R0 := zHH hg y; have S0 := zGG hg y; revert n0 o0 p0 q0 t0 x0 y0 T0 U0 V0 L0 R0 S0; clear B z HL223_0 HL223_1 y M O HB; intro B z HL223_0 HL223_1 y M O HB A l1 m1 j0 m0; clear hb hbox hg; have n6 := m0.out; have o6 := j0.out; obtain ⟨e5, f5, g5, i5⟩ := zc2 A; obtain ⟨j5, l5, m5, n5⟩ := zc2 y) | (go_at_call 34; (with_reducible refine (impl_allWithin.calls k1 _ _ ((rd_T57 q l).f0) 0 (wrap64 (C0 - 1)) true _ ?side1 ?side2 F1.out).mono ?_); (case side1 => repeat (first | exact ((Kd.V_reads' (Kd.V_mono (zlV (Kd.V_mono HL223_0.out (fun k_ hk => (⟨hk, hk.2⟩ : _ ∧ k_ ≠ u)))) (fun _ h_ => h_.1))).2.2) | (with_reducible refine Kd.C_alloc ?_ _) | (with_reducible refine Kd.C_drewN ?_ _) | (with_reducible refine Kd.C_drew ?_))); (case side2 => exact A0.out); rintro e w' ⟨rfl, ⟨nd, rfl⟩⟩) | (go_at_call 34; (with_reducible refine (impl_allWithin.calls k1 _ _ ((rd_T57 q l).f1) 0 1000 true _ ?side1 ?side2 c2.out).mono ?_); (case side1 => repeat (first | exact ((Kd.V_reads' (Kd.V_mono (zlV (Kd.V_mono HL223_1.out (fun k_ hk => (⟨hk, hk.2⟩ : _ ∧ k_ ≠ u)))) (fun _ h_ => h_.1))).2.2) | (with_reducible refine Kd.C_alloc ?_ _) | (with_reducible refine Kd.C_drewN ?_ _) | (with_reducible refine Kd.C_drew ?_))); (case side2 => exact B0.out); rintro e w' ⟨rfl, ⟨nd, rfl⟩⟩) | (go_at_call 35; (with_reducible refine (impl_all.calls k1 _ _ ((rd_T57 q l).f1) 0 false _ ?side1 ?side2 j2.out).mono ?_); (case side1 => repeat (first | exact ((Kd.V_reads' (Kd.V_mono (zlV (Kd.V_mono HL223_1.out (fun k_ hk => (⟨hk, hk.2⟩ : _ ∧ k_ ≠ u)))) (fun _ h_ => h_.1))).2.2) | (with_reducible refine Kd.C_alloc ?_ _) | (with_reducible refine Kd.C_drewN ?_ _) | (with_reducible refine Kd.C_drew ?_))); (case side2 => exact B0.out); rintro e w' ⟨rfl, ⟨nd, rfl⟩⟩))
     have n0 : Aside0 (Kd.N k57 57 ((I1.setCell ⟨u, 0, none⟩ (.slice E ((rd_T57 q l).f0).length I)).setCell ⟨u, 1, none⟩ (.slice T ((rd_T57 q l).f1).length U)) w.heap.size (fun k_ => k_ ≠ a0 ∧ k_ ≠ u) (.slice (some X) q.length G0) q) := ⟨Kd.N_mono (zlN (Kd.N_mono B.out (fun k_ hk => (⟨hk, hk.2⟩ : _ ∧ k_ ≠ u)))) (fun _ hk => ⟨hk.1.1, hk.1.2⟩)⟩
     have o0 : Aside0 (Kd.N k57 57 ((I1.setCell ⟨u, 0, none⟩ (.slice E ((rd_T57 q l).f0).length I)).setCell ⟨u, 1, none⟩ (.slice T ((rd_T57 q l).f1).length U)) w.heap.size (fun k_ => k_ ≠ a0 ∧ k_ ≠ u) (.slice (some X) q.length G0) q) := ⟨Kd.N_mono (zlN (Kd.N_mono z.out (fun k_ hk => (⟨hk, hk.2⟩ : _ ∧ k_ ≠ u)))) (fun _ hk => ⟨hk.1.1, hk.1.2⟩)⟩
     have p0 : Aside0 (Kd.V (Kd.int .i64) 3 ((I1.setCell ⟨u, 0, none⟩ (.slice E ((rd_T57 q l).f0).length I)).setCell ⟨u, 1, none⟩ (.slice T ((rd_T57 q l).f1).length U)) w.heap.size (fun k_ => some k_ ≠ (.slice (some X) q.length G0 : Value).ownBlock ∧ k_ ≠ a0 ∧ k_ ≠ u) (.slice E ((rd_T57 q l).f0).length I) ((rd_T57 q l).f0)) := ⟨Kd.V_mono (zlV (Kd.V_mono HL223_0.out (fun k_ hk => (⟨hk, hk.2⟩ : _ ∧ k_ ≠ u)))) (fun _ hk => ⟨hk.1.1.2, ⟨hk.1.1.1, hk.1.2⟩⟩)⟩
     have q0 : Aside0 (Kd.V (Kd.int .i64) 3 ((I1.setCell ⟨u, 0, none⟩ (.slice E ((rd_T57 q l).f0).length I)).setCell ⟨u, 1, none⟩ (.slice T ((rd_T57 q l).f1).length U)) w.heap.size (fun k_ => some k_ ≠ (.slice (some X) q.length G0 : Value).ownBlock ∧ k_ ≠ a0 ∧ k_ ≠ u) (.slice T ((rd_T57 q l).f1).length U) ((rd_T57 q l).f1)) := ⟨Kd.V_mono (zlV (Kd.V_mono HL223_1.out (fun k_ hk => (⟨hk, hk.2⟩ : _ ∧ k_ ≠ u)))) (fun _ hk => ⟨hk.1.1.2, ⟨hk.1.1.1, hk.1.2⟩⟩)⟩
     have t0 : Aside0 (((I1.setCell ⟨u, 0, none⟩ (.slice E ((rd_T57 q l).f0).length I)).setCell ⟨u, 1, none⟩ (.slice T ((rd_T57 q l).f1).length U)).heap[a0]? = some (.cells #[.int .i64 C0, .slice b1 I0.length d1] 29 (0, 0))) := ⟨zV y⟩
     have x0 : Aside0 (((I1.setCell ⟨u, 0, none⟩ (.slice E ((rd_T57 q l).f0).length I)).setCell ⟨u, 1, none⟩ (.slice T ((rd_T57 q l).f1).length U)).heap[u]? = some (.cells #[.slice E ((rd_T57 q l).f0).length I, .slice T ((rd_T57 q l).f1).length U] 57 (0, 0))) := ⟨zW A⟩
     have y0 : Aside0 (Below w.heap.size w ((I1.setCell ⟨u, 0, none⟩ (.slice E ((rd_T57 q l).f0).length I)).setCell ⟨u, 1, none⟩ (.slice T ((rd_T57 q l).f1).length U))) := ⟨zB⟩
     (try clear B)
     (try clear z)
     (try clear HL223_0)
     (try clear HL223_1)
     (try clear y)
     (try clear A)
     (try clear HB)
     generalize ((I1.setCell ⟨u, 0, none⟩ (.slice E ((rd_T57 q l).f0).length I)).setCell ⟨u, 1, none⟩ (.slice T ((rd_T57 q l).f1).length U)) = q1 at n0 o0 p0 q0 t0 x0 y0 ⊢
     revert n0 o0 p0 q0 t0 x0 y0
     intro B z HL223_0 HL223_1 y A HB
     (try (rw [drewN_self q1]; generalize hq_ : World.drewN q1 _ = q1; have n0 : Aside0 (Kd.V (Kd.int .i64) 3 q1 w.heap.size (fun k_ => some k_ ≠ (.slice (some X) q.length G0 : Value).ownBlock ∧ k_ ≠ a0 ∧ k_ ≠ u) (.slice E ((rd_T57 q l).f0).length I) ((rd_T57 q l).f0)) := ⟨by rw [← hq_]; exact (zkV HL223_0)⟩; have o0 : Aside0 (Kd.V (Kd.int .i64) 3 q1 w.heap.size (fun k_ => some k_ ≠ (.slice (some X) q.length G0 : Value).ownBlock ∧ k_ ≠ a0 ∧ k_ ≠ u) (.slice T ((rd_T57 q l).f1).length U) ((rd_T57 q l).f1)) := ⟨by rw [← hq_]; exact (zkV HL223_1)⟩; have p0 : Aside0 (Kd.N k57 57 q1 w.heap.size (fun k_ => k_ ≠ a0 ∧ k_ ≠ u) (.slice (some X) q.length G0) q) := ⟨by rw [← hq_]; exact (zkN z)⟩; have q0 : Aside0 (Kd.N k57 57 q1 w.heap.size (fun k_ => k_ ≠ a0 ∧ k_ ≠ u) (.slice (some X) q.length G0) q) := ⟨by rw [← hq_]; exact (zkN B)⟩; have t0 : Aside0 (q1.heap[a0]? = some (.cells #[.int .i64 C0, .slice b1 I0.length d1] 29 (0, 0))) := ⟨by rw [← hq_]; exact (zM y)⟩; have x0 : Aside0 (q1.heap[u]? = some (.cells #[.slice E ((rd_T57 q l).f0).length I, .slice T ((rd_T57 q l).f1).length U] 57 (0, 0))) := ⟨by rw [← hq_]; exact (zM A)⟩; have y0 : Aside0 (Below w.heap.size w q1) := ⟨by rw [← hq_]; exact zB⟩; clear HL223_0 HL223_1 z B y A HB hq_; revert n0 o0 p0 q0 t0 x0 y0; intro HL223_0 HL223_1 z B y A HB))
     have n0 := zK (Kd.N_drew B.out)
     have o0 := zK (Kd.N_drew z.out)
     have p0 := zK (Kd.V_drew HL223_0.out)
     have q0 := zK (Kd.V_drew HL223_1.out)
     have t0 := zK (zd y.out)
     have x0 := zK (zd A.out)
     have y0 := zK (ze HB.out)
     revert n0 o0 p0 q0 t0 x0 y0
     clear B z HL223_0 HL223_1 y A HB
     intro B z HL223_0 HL223_1 y A HB
     have n1 : 0 ≤ ((ji31) : Int) := z3
     have o1 : (ji31) < (q.length : Int) := z3
     obtain ⟨i2, t1, x1, O1, R1, n2, X0, a1, e1, g1, i1, j1⟩ := at_T57 (Kd.N_reads' B.out).2.2 (ji31) n1 o1
     obtain rfl : X = i2 := (by injection n2)
     obtain ⟨ce228, hce228, hMe228, hcc228⟩ := Kd.N_get B.out z57 (ji31) n1 (by first | exact o1 | exact z3 | (have e_ := (Kd.N_reads' B.out).1; omega))
     obtain ⟨ua228_0, uc228_0, ua228_1, uc228_1, rfl, ul228_0, ge228_0, ul228_1, ge228_1⟩ := k57_openF hMe228
     have M0 := hcc228 0 _ rfl
     rw [Nat.add_zero] at M0
     replace M0 := z5 (M0.symm.trans X0)
     injection M0 with hva_ hvn_ hvc_
     rw [hva_] at ge228_0
     rw [hvc_] at ul228_0
     have HL228_0 := zK (show Kd.V (Kd.int .i64) 3 _ w.heap.size _ _ ((rd_T57 q (ji31)).f0) from Kd.V_mk ul228_0 ge228_0)
     clear hva_ hvn_ hvc_ ge228_0 ul228_0
     have N0 := hcc228 1 _ rfl
     rw [add_field _ _ 1 (by omega)] at N0
     replace N0 := z5 (N0.symm.trans a1)
     injection N0 with hva_ hvn_ hvc_
     rw [hva_] at ge228_1
     rw [hvc_] at ul228_1
     have HL228_1 := zK (show Kd.V (Kd.int .i64) 3 _ w.heap.size _ _ ((rd_T57 q (ji31)).f1) from Kd.V_mk ul228_1 ge228_1)
     clear hva_ hvn_ hvc_ ge228_1 ul228_1
     clear hcc228 hce228
     have F0 := zK g1
     have E1 := zK e1
     clear g1 e1
     have J0 := zK j1
     have M2 := zK i1
     clear j1 i1
     replace n1 := eq_true n1
     replace o1 := eq_true o1
     refine start_ (n := 14) (S := fun w' => w'.cell? ⟨u, 0, none⟩ = some (.slice E ((rd_T57 q l).f0).length I) ∧ w'.cell? ⟨u, 1, none⟩ = some (.slice T ((rd_T57 q l).f1).length U) ∧ w'.cell? (X.add (((ji31)).toNat * 2)) = some (.slice t1 ((rd_T57 q (ji31)).f0).length x1) ∧ w'.cell? ⟨(X.add (((ji31)).toNat * 2)).block, (X.add (((ji31)).toNat * 2)).off + 1, none⟩ = some (.slice O1 ((rd_T57 q (ji31)).f1).length R1)) (ds := []) (bl 14 0) (by kernel_rfl) rfl (by kernel_rfl) ⟨zy A 0, zy A 1, X0, a1⟩ (fun hHeld => ?_); refine with_tabW impl_LmOk.tab9 impl_LmOk.bits9 (fun HT_ HW_ => ?_)
     generalize q1.drew = I6 at B z HL223_0 HL223_1 y A HB HL228_0 HL228_1 F0 J0 X0 a1 hHeld ⊢
     refine zP 0 57 (bl 14 1) HT_ ?_
     refine zP 1 58 (bl 14 3) HT_ ?_
     refine zP 2 59 (bl 14 7) HT_ ?_
     refine zP 3 60 (bl 14 15) HT_ ?_
     refine zP 4 61 (bl 14 31) HT_ ?_
     refine zP 5 62 (bl 14 63) HT_ ?_
     refine zP 6 63 (bl 14 127) HT_ ?_
     refine zP 7 64 (bl 14 255) HT_ ?_
     refine zP 9 66 (bl 14 767) HT_ ?_
     refine zT 8 65 (bl 14 1023) rfl rfl HT_ HW_ hHeld (by rintro w' ⟨s0, s1, s2, s3⟩; go_simp; with_reducible rfl) ?_
     refine zT 10 67 (bl 14 2047) rfl rfl HT_ HW_ hHeld (by rintro w' ⟨s0, s1, s2, s3⟩; go_simp; with_reducible rfl) ?_
     refine one_ (i := 11) (N := some 68) (bl 14 4095) rfl rfl (one_of HT_.out (by kernel_rfl)) (by decide) (fun K hK => ?_)
     refine goes_ Try.func36 (by kernel_rfl) rfl #[.slice t1 ((rd_T57 q (ji31)).f0).length x1, .slice E ((rd_T57 q l).f0).length I] (by rfl) rfl rfl (by (try simp only [List.map_toArray, List.map_cons, List.map_nil]); first | done | (simp only [hji31]; rfl) | rfl | (simp only [List.length_drop, List.length_take]; rfl)) ?_
     with_reducible refine (impl_byKey.calls k1 _ _ ((rd_T57 q (ji31)).f0) _ _ ((rd_T57 q l).f0) M1 _ ?side1 ?side2 ?side3 ?side4 C3.out).mono ?_
     (case side1 => repeat (first | exact (by repeat (first | (with_reducible exact F0.out) | (with_reducible refine Kd.C_alloc ?_ _) | (with_reducible refine Kd.C_drewN ?_ _) | (with_reducible refine Kd.C_drew ?_) | exact F0.out)) | (with_reducible refine Kd.C_alloc ?_ _) | (with_reducible refine Kd.C_drewN ?_ _) | (with_reducible refine Kd.C_drew ?_)))
     (case side2 => exact E1.out)
     (case side3 => repeat (first | exact ((Kd.V_reads' (zkV HL223_0)).2.2) | (with_reducible refine Kd.C_alloc ?_ _) | (with_reducible refine Kd.C_drewN ?_ _) | (with_reducible refine Kd.C_drew ?_)))
     (case side4 => exact A0.out)
     rintro e J6 ⟨rfl, hb⟩
     have o2 := (hb.cell (World.block_lt_of_cell? _ _ (hHeld.2.2.1))).trans (hHeld.2.2.1)
     have q2 := (hb.cell (World.block_lt_of_cell? _ _ (hHeld.2.2.2))).trans (hHeld.2.2.2)
     refine ⟨_, rfl, ?_⟩
     have n0 := zK (Kd.N_below (zkN B) hb)
     have o0 := zK (Kd.N_below (zkN z) hb)
     have p0 := zK (Kd.V_below (zkV HL223_0) hb)
     have q0 := zK (Kd.V_below (zkV HL223_1) hb)
     have t0 := zK (Kd.V_below (zkV HL228_0) hb)
     have x0 := zK (Kd.V_below (zkV HL228_1) hb)
     have y0 := z7 y hb
     have T0 := z7 A hb
     have U0 := zK (z4 (by repeat (first | (with_reducible exact F0.out) | (with_reducible refine Kd.C_alloc ?_ _) | (with_reducible refine Kd.C_drewN ?_ _) | (with_reducible refine Kd.C_drew ?_) | exact F0.out)) hb)
     have V0 := zK (z4 (by repeat (first | (with_reducible exact J0.out) | (with_reducible refine Kd.C_alloc ?_ _) | (with_reducible refine Kd.C_drewN ?_ _) | (with_reducible refine Kd.C_drew ?_) | exact J0.out)) hb)
     have L0 := z8 hb
     revert n0 o0 p0 q0 t0 x0 y0 T0 U0 V0 L0
     clear B z HL223_0 HL223_1 HL228_0 HL228_1 y A F0 J0 HB
     intro B z HL223_0 HL223_1 HL228_0 HL228_1 y A F0 J0 HB
     (try clear hb)
     (try clear hb2)
     (try clear hk)
     (try clear hi)
     refine hK.out _ _ ⟨zy A 0, zy A 1, o2, q2⟩ (fun hHeld => ?_)
     clear hK K
     refine zU 68 ?_
     refine zP 12 69 (bl 14 8191) HT_ ?_
     refine zP 13 70 (bl 14 16383) HT_ ?_
     refine done_ (done_of HT_.out (by kernel_rfl)) ?_
     try go_wp2
     go_ret
     exact ⟨by first | rfl | (simp [errW_none, errW_some] <;> rfl) | (simp only [← hji31]; first | rfl | (simp [errW_none, errW_some] <;> rfl)) | (simp [*, errW_none, errW_some] <;> rfl), zB⟩
   rw [if_neg N1] at H
   have x3 := beq_eq_false_iff_ne.mpr N1
   have y3 := bne_iff_ne.mpr N1
   have H' := zK H
   clear H
   have g0 : 0 ≤ (l : Int) := z3
   have i0 : l < (q.length : Int) := z3
   obtain ⟨X, E, I, T, U, O0, D0, E0, b0, c0, d0, e0⟩ := at_T57 (Kd.N_reads' z.out).2.2 l g0 i0
   cases O0
   obtain ⟨ce223, hce223, hMe223, hcc223⟩ := Kd.N_get z.out z57 l g0 (by first | exact i0 | exact z3 | (have e_ := (Kd.N_reads' z.out).1; omega))
   obtain ⟨ua223_0, uc223_0, ua223_1, uc223_1, rfl, ul223_0, ge223_0, ul223_1, ge223_1⟩ := k57_openF hMe223
   have J := hcc223 0 _ rfl
   rw [Nat.add_zero] at J
   replace J := z5 (J.symm.trans D0)
   injection J with hva_ hvn_ hvc_
   rw [hva_] at ge223_0
   rw [hvc_] at ul223_0
   have HL223_0 := zK (show Kd.V (Kd.int .i64) 3 _ w.heap.size _ _ ((rd_T57 q l).f0) from Kd.V_mk ul223_0 ge223_0)
   clear hva_ hvn_ hvc_ ge223_0 ul223_0
   have L := hcc223 1 _ rfl
   rw [add_field _ _ 1 (by omega)] at L
   replace L := z5 (L.symm.trans E0)
   injection L with hva_ hvn_ hvc_
   rw [hva_] at ge223_1
   rw [hvc_] at ul223_1
   have HL223_1 := zK (show Kd.V (Kd.int .i64) 3 _ w.heap.size _ _ ((rd_T57 q l).f1) from Kd.V_mk ul223_1 ge223_1)
   clear hva_ hvn_ hvc_ ge223_1 ul223_1
   clear hcc223 hce223
   have M := zK c0
   have A0 := zK b0
   clear c0 b0
   have O := zK e0
   have B0 := zK d0
   clear e0 d0
   replace g0 := eq_true g0
   replace i0 := eq_true i0
   try go_wp2_with (first | ((with_reducible refine gd 5 rfl ?_); (try (refine gate_guard (by rfl) ?_; dsimp only)); refine zJ 5 #[.slice none 0 0, .slice none 0 0] 57 ?_; intro u hg J1 hbox hb; have n0 := zK (Kd.N_below (Kd.N_elderB (zkN B) u (Nat.le_of_eq hg.symm)) hb); have o0 := zK (Kd.N_below (Kd.N_elderB (zkN z) u (Nat.le_of_eq hg.symm)) hb); have p0 := zK (Kd.V_below (Kd.V_elderB (zkV HL223_0) u (Nat.le_of_eq hg.symm)) hb); have q0 := zK (Kd.V_below (Kd.V_elderB (zkV HL223_1) u (Nat.le_of_eq hg.symm)) hb); have t0 := z7 y hb; have x0 := zK (z4 (by repeat (first | (with_reducible exact M.out) | (with_reducible refine Kd.C_alloc ?_ _) | (with_reducible refine Kd.C_drewN ?_ _) | (with_reducible refine Kd.C_drew ?_) | exact M.out)) hb); have y0 := zK (z4 (by repeat (first | (with_reducible exact O.out) | (with_reducible refine Kd.C_alloc ?_ _) | (with_reducible refine Kd.C_drewN ?_ _) | (with_reducible refine Kd.C_drew ?_) | exact O.out)) hb); have T0 := z8 hb; have U0 := zK (hbox); have V0 := z9 hg; have L0 := z9 hg; have R0 := zHH hg y; have S0 := zGG hg y; revert n0 o0 p0 q0 t0 x0 y0 T0 U0 V0 L0 R0 S0; clear B z HL223_0 HL223_1 y M O HB; intro B z HL223_0 HL223_1 y M O HB A l1 m1 j0 m0; clear hb hbox hg; have p6 := m0.out; have q6 := j0.out; obtain ⟨o5, p5, q5, s5⟩ := zc2 A; obtain ⟨t5, x5, y5, A5⟩ := zc2 y) | (go_at_call 34; (with_reducible refine (impl_allWithin.calls k1 _ _ ((rd_T57 q l).f0) 0 (wrap64 (C0 - 1)) true _ ?side1 ?side2 F1.out).mono ?_); (case side1 => repeat (first | exact ((Kd.V_reads' (Kd.V_mono (zlV (Kd.V_mono HL223_0.out (fun k_ hk => (⟨hk, hk.2⟩ : _ ∧ k_ ≠ u)))) (fun _ h_ => h_.1))).2.2) | (with_reducible refine Kd.C_alloc ?_ _) | (with_reducible refine Kd.C_drewN ?_ _) | (with_reducible refine Kd.C_drew ?_))); (case side2 => exact A0.out); rintro e w' ⟨rfl, ⟨nd, rfl⟩⟩) | (go_at_call 34; (with_reducible refine (impl_allWithin.calls k1 _ _ ((rd_T57 q l).f1) 0 1000 true _ ?side1 ?side2 c2.out).mono ?_); (case side1 => repeat (first | exact ((Kd.V_reads' (Kd.V_mono (zlV (Kd.V_mono HL223_1.out (fun k_ hk => (⟨hk, hk.2⟩ : _ ∧ k_ ≠ u)))) (fun _ h_ => h_.1))).2.2) | (with_reducible refine Kd.C_alloc ?_ _) | (with_reducible refine Kd.C_drewN ?_ _) | (with_reducible refine Kd.C_drew ?_))); (case side2 => exact B0.out); rintro e w' ⟨rfl, ⟨nd, rfl⟩⟩) | (go_at_call 35; (with_reducible refine (impl_all.calls k1 _ _ ((rd_T57 q l).f1) 0 false _ ?side1 ?side2 j2.out).mono ?_); (case side1 => repeat (first | exact ((Kd.V_reads' (Kd.V_mono (zlV (Kd.V_mono HL223_1.out (fun k_ hk => (⟨hk, hk.2⟩ : _ ∧ k_ ≠ u)))) (fun _ h_ => h_.1))).2.2) | (with_reducible refine Kd.C_alloc ?_ _) | (with_reducible refine Kd.C_drewN ?_ _) | (with_reducible refine Kd.C_drew ?_))); (case side2 => exact B0.out); rintro e w' ⟨rfl, ⟨nd, rfl⟩⟩))
   have n0 : Aside0 (Kd.N k57 57 ((J1.setCell ⟨u, 0, none⟩ (.slice E ((rd_T57 q l).f0).length I)).setCell ⟨u, 1, none⟩ (.slice T ((rd_T57 q l).f1).length U)) w.heap.size (fun k_ => k_ ≠ a0 ∧ k_ ≠ u) (.slice (some X) q.length G0) q) := ⟨Kd.N_mono (zlN (Kd.N_mono B.out (fun k_ hk => (⟨hk, hk.2⟩ : _ ∧ k_ ≠ u)))) (fun _ hk => ⟨hk.1.1, hk.1.2⟩)⟩
   have o0 : Aside0 (Kd.N k57 57 ((J1.setCell ⟨u, 0, none⟩ (.slice E ((rd_T57 q l).f0).length I)).setCell ⟨u, 1, none⟩ (.slice T ((rd_T57 q l).f1).length U)) w.heap.size (fun k_ => k_ ≠ a0 ∧ k_ ≠ u) (.slice (some X) q.length G0) q) := ⟨Kd.N_mono (zlN (Kd.N_mono z.out (fun k_ hk => (⟨hk, hk.2⟩ : _ ∧ k_ ≠ u)))) (fun _ hk => ⟨hk.1.1, hk.1.2⟩)⟩
   have p0 : Aside0 (Kd.V (Kd.int .i64) 3 ((J1.setCell ⟨u, 0, none⟩ (.slice E ((rd_T57 q l).f0).length I)).setCell ⟨u, 1, none⟩ (.slice T ((rd_T57 q l).f1).length U)) w.heap.size (fun k_ => some k_ ≠ (.slice (some X) q.length G0 : Value).ownBlock ∧ k_ ≠ a0 ∧ k_ ≠ u) (.slice E ((rd_T57 q l).f0).length I) ((rd_T57 q l).f0)) := ⟨Kd.V_mono (zlV (Kd.V_mono HL223_0.out (fun k_ hk => (⟨hk, hk.2⟩ : _ ∧ k_ ≠ u)))) (fun _ hk => ⟨hk.1.1.2, ⟨hk.1.1.1, hk.1.2⟩⟩)⟩
   have q0 : Aside0 (Kd.V (Kd.int .i64) 3 ((J1.setCell ⟨u, 0, none⟩ (.slice E ((rd_T57 q l).f0).length I)).setCell ⟨u, 1, none⟩ (.slice T ((rd_T57 q l).f1).length U)) w.heap.size (fun k_ => some k_ ≠ (.slice (some X) q.length G0 : Value).ownBlock ∧ k_ ≠ a0 ∧ k_ ≠ u) (.slice T ((rd_T57 q l).f1).length U) ((rd_T57 q l).f1)) := ⟨Kd.V_mono (zlV (Kd.V_mono HL223_1.out (fun k_ hk => (⟨hk, hk.2⟩ : _ ∧ k_ ≠ u)))) (fun _ hk => ⟨hk.1.1.2, ⟨hk.1.1.1, hk.1.2⟩⟩)⟩
   have t0 : Aside0 (((J1.setCell ⟨u, 0, none⟩ (.slice E ((rd_T57 q l).f0).length I)).setCell ⟨u, 1, none⟩ (.slice T ((rd_T57 q l).f1).length U)).heap[a0]? = some (.cells #[.int .i64 C0, .slice b1 I0.length d1] 29 (0, 0))) := ⟨zV y⟩
   have x0 : Aside0 (((J1.setCell ⟨u, 0, none⟩ (.slice E ((rd_T57 q l).f0).length I)).setCell ⟨u, 1, none⟩ (.slice T ((rd_T57 q l).f1).length U)).heap[u]? = some (.cells #[.slice E ((rd_T57 q l).f0).length I, .slice T ((rd_T57 q l).f1).length U] 57 (0, 0))) := ⟨zW A⟩
   have y0 : Aside0 (Below w.heap.size w ((J1.setCell ⟨u, 0, none⟩ (.slice E ((rd_T57 q l).f0).length I)).setCell ⟨u, 1, none⟩ (.slice T ((rd_T57 q l).f1).length U))) := ⟨zB⟩
   (try clear B)
   (try clear z)
   (try clear HL223_0)
   (try clear HL223_1)
   (try clear y)
   (try clear A)
   (try clear HB)
   generalize ((J1.setCell ⟨u, 0, none⟩ (.slice E ((rd_T57 q l).f0).length I)).setCell ⟨u, 1, none⟩ (.slice T ((rd_T57 q l).f1).length U)) = y1 at n0 o0 p0 q0 t0 x0 y0 ⊢
   revert n0 o0 p0 q0 t0 x0 y0
   intro B z HL223_0 HL223_1 y A HB
   (try (rw [drewN_self y1]; generalize hq_ : World.drewN y1 _ = y1; have n0 : Aside0 (Kd.V (Kd.int .i64) 3 y1 w.heap.size (fun k_ => some k_ ≠ (.slice (some X) q.length G0 : Value).ownBlock ∧ k_ ≠ a0 ∧ k_ ≠ u) (.slice E ((rd_T57 q l).f0).length I) ((rd_T57 q l).f0)) := ⟨by rw [← hq_]; exact (zkV HL223_0)⟩; have o0 : Aside0 (Kd.V (Kd.int .i64) 3 y1 w.heap.size (fun k_ => some k_ ≠ (.slice (some X) q.length G0 : Value).ownBlock ∧ k_ ≠ a0 ∧ k_ ≠ u) (.slice T ((rd_T57 q l).f1).length U) ((rd_T57 q l).f1)) := ⟨by rw [← hq_]; exact (zkV HL223_1)⟩; have p0 : Aside0 (Kd.N k57 57 y1 w.heap.size (fun k_ => k_ ≠ a0 ∧ k_ ≠ u) (.slice (some X) q.length G0) q) := ⟨by rw [← hq_]; exact (zkN z)⟩; have q0 : Aside0 (Kd.N k57 57 y1 w.heap.size (fun k_ => k_ ≠ a0 ∧ k_ ≠ u) (.slice (some X) q.length G0) q) := ⟨by rw [← hq_]; exact (zkN B)⟩; have t0 : Aside0 (y1.heap[a0]? = some (.cells #[.int .i64 C0, .slice b1 I0.length d1] 29 (0, 0))) := ⟨by rw [← hq_]; exact (zM y)⟩; have x0 : Aside0 (y1.heap[u]? = some (.cells #[.slice E ((rd_T57 q l).f0).length I, .slice T ((rd_T57 q l).f1).length U] 57 (0, 0))) := ⟨by rw [← hq_]; exact (zM A)⟩; have y0 : Aside0 (Below w.heap.size w y1) := ⟨by rw [← hq_]; exact zB⟩; clear HL223_0 HL223_1 z B y A HB hq_; revert n0 o0 p0 q0 t0 x0 y0; intro HL223_0 HL223_1 z B y A HB))
   have n0 := zK (Kd.N_drew B.out)
   have o0 := zK (Kd.N_drew z.out)
   have p0 := zK (Kd.V_drew HL223_0.out)
   have q0 := zK (Kd.V_drew HL223_1.out)
   have t0 := zK (zd y.out)
   have x0 := zK (zd A.out)
   have y0 := zK (ze HB.out)
   revert n0 o0 p0 q0 t0 x0 y0
   clear B z HL223_0 HL223_1 y A HB
   intro B z HL223_0 HL223_1 y A HB
   have n1 : 0 ≤ ((ji31) : Int) := z3
   have o1 : (ji31) < (q.length : Int) := z3
   obtain ⟨i2, t1, x1, O1, R1, n2, X0, a1, e1, g1, i1, j1⟩ := at_T57 (Kd.N_reads' B.out).2.2 (ji31) n1 o1
   obtain rfl : X = i2 := (by injection n2)
   obtain ⟨ce228, hce228, hMe228, hcc228⟩ := Kd.N_get B.out z57 (ji31) n1 (by first | exact o1 | exact z3 | (have e_ := (Kd.N_reads' B.out).1; omega))
   obtain ⟨ua228_0, uc228_0, ua228_1, uc228_1, rfl, ul228_0, ge228_0, ul228_1, ge228_1⟩ := k57_openF hMe228
   have M0 := hcc228 0 _ rfl
   rw [Nat.add_zero] at M0
   replace M0 := z5 (M0.symm.trans X0)
   injection M0 with hva_ hvn_ hvc_
   rw [hva_] at ge228_0
   rw [hvc_] at ul228_0
   have HL228_0 := zK (show Kd.V (Kd.int .i64) 3 _ w.heap.size _ _ ((rd_T57 q (ji31)).f0) from Kd.V_mk ul228_0 ge228_0)
   clear hva_ hvn_ hvc_ ge228_0 ul228_0
   have N0 := hcc228 1 _ rfl
   rw [add_field _ _ 1 (by omega)] at N0
   replace N0 := z5 (N0.symm.trans a1)
   injection N0 with hva_ hvn_ hvc_
   rw [hva_] at ge228_1
   rw [hvc_] at ul228_1
   have HL228_1 := zK (show Kd.V (Kd.int .i64) 3 _ w.heap.size _ _ ((rd_T57 q (ji31)).f1) from Kd.V_mk ul228_1 ge228_1)
   clear hva_ hvn_ hvc_ ge228_1 ul228_1
   clear hcc228 hce228
   have F0 := zK g1
   have E1 := zK e1
   clear g1 e1
   have J0 := zK j1
   have M2 := zK i1
   clear j1 i1
   replace n1 := eq_true n1
   replace o1 := eq_true o1
   refine start_ (n := 14) (S := fun w' => w'.cell? ⟨u, 0, none⟩ = some (.slice E ((rd_T57 q l).f0).length I) ∧ w'.cell? ⟨u, 1, none⟩ = some (.slice T ((rd_T57 q l).f1).length U) ∧ w'.cell? (X.add (((ji31)).toNat * 2)) = some (.slice t1 ((rd_T57 q (ji31)).f0).length x1) ∧ w'.cell? ⟨(X.add (((ji31)).toNat * 2)).block, (X.add (((ji31)).toNat * 2)).off + 1, none⟩ = some (.slice O1 ((rd_T57 q (ji31)).f1).length R1)) (ds := []) (bl 14 0) (by kernel_rfl) rfl (by kernel_rfl) ⟨zy A 0, zy A 1, X0, a1⟩ (fun hHeld => ?_); refine with_tabW impl_LmOk.tab9 impl_LmOk.bits9 (fun HT_ HW_ => ?_)
   generalize y1.drew = L6 at B z HL223_0 HL223_1 y A HB HL228_0 HL228_1 F0 J0 X0 a1 hHeld ⊢
   refine zP 0 57 (bl 14 1) HT_ ?_
   refine zP 1 58 (bl 14 3) HT_ ?_
   refine zP 2 59 (bl 14 7) HT_ ?_
   refine zP 3 60 (bl 14 15) HT_ ?_
   refine zP 4 61 (bl 14 31) HT_ ?_
   refine zP 5 62 (bl 14 63) HT_ ?_
   refine zP 6 63 (bl 14 127) HT_ ?_
   refine zP 7 64 (bl 14 255) HT_ ?_
   refine zP 9 66 (bl 14 767) HT_ ?_
   refine zT 8 65 (bl 14 1023) rfl rfl HT_ HW_ hHeld (by rintro w' ⟨s0, s1, s2, s3⟩; go_simp; with_reducible rfl) ?_
   refine zT 10 67 (bl 14 2047) rfl rfl HT_ HW_ hHeld (by rintro w' ⟨s0, s1, s2, s3⟩; go_simp; with_reducible rfl) ?_
   refine one_ (i := 11) (N := some 68) (bl 14 4095) rfl rfl (one_of HT_.out (by kernel_rfl)) (by decide) (fun K hK => ?_)
   refine goes_ Try.func36 (by kernel_rfl) rfl #[.slice t1 ((rd_T57 q (ji31)).f0).length x1, .slice E ((rd_T57 q l).f0).length I] (by rfl) rfl rfl (by (try simp only [List.map_toArray, List.map_cons, List.map_nil]); first | done | (simp only [hji31]; rfl) | rfl | (simp only [List.length_drop, List.length_take]; rfl)) ?_
   with_reducible refine (impl_byKey.calls k1 _ _ ((rd_T57 q (ji31)).f0) _ _ ((rd_T57 q l).f0) M1 _ ?side1 ?side2 ?side3 ?side4 C3.out).mono ?_
   (case side1 => repeat (first | exact (by repeat (first | (with_reducible exact F0.out) | (with_reducible refine Kd.C_alloc ?_ _) | (with_reducible refine Kd.C_drewN ?_ _) | (with_reducible refine Kd.C_drew ?_) | exact F0.out)) | (with_reducible refine Kd.C_alloc ?_ _) | (with_reducible refine Kd.C_drewN ?_ _) | (with_reducible refine Kd.C_drew ?_)))
   (case side2 => exact E1.out)
   (case side3 => repeat (first | exact ((Kd.V_reads' (zkV HL223_0)).2.2) | (with_reducible refine Kd.C_alloc ?_ _) | (with_reducible refine Kd.C_drewN ?_ _) | (with_reducible refine Kd.C_drew ?_)))
   (case side4 => exact A0.out)
   rintro e M6 ⟨rfl, hb⟩
   have o2 := (hb.cell (World.block_lt_of_cell? _ _ (hHeld.2.2.1))).trans (hHeld.2.2.1)
   have q2 := (hb.cell (World.block_lt_of_cell? _ _ (hHeld.2.2.2))).trans (hHeld.2.2.2)
   refine ⟨_, rfl, ?_⟩
   have n0 := zK (Kd.N_below (zkN B) hb)
   have o0 := zK (Kd.N_below (zkN z) hb)
   have p0 := zK (Kd.V_below (zkV HL223_0) hb)
   have q0 := zK (Kd.V_below (zkV HL223_1) hb)
   have t0 := zK (Kd.V_below (zkV HL228_0) hb)
   have x0 := zK (Kd.V_below (zkV HL228_1) hb)
   have y0 := z7 y hb
   have T0 := z7 A hb
   have U0 := zK (z4 (by repeat (first | (with_reducible exact F0.out) | (with_reducible refine Kd.C_alloc ?_ _) | (with_reducible refine Kd.C_drewN ?_ _) | (with_reducible refine Kd.C_drew ?_) | exact F0.out)) hb)
   have V0 := zK (z4 (by repeat (first | (with_reducible exact J0.out) | (with_reducible refine Kd.C_alloc ?_ _) | (with_reducible refine Kd.C_drewN ?_ _) | (with_reducible refine Kd.C_drew ?_) | exact J0.out)) hb)
   have L0 := z8 hb
   revert n0 o0 p0 q0 t0 x0 y0 T0 U0 V0 L0
   clear B z HL223_0 HL223_1 HL228_0 HL228_1 y A F0 J0 HB
   intro B z HL223_0 HL223_1 HL228_0 HL228_1 y A F0 J0 HB
   (try clear hb)
   (try clear hb2)
   (try clear hk)
   (try clear hi)
   refine hK.out _ _ ⟨zy A 0, zy A 1, o2, q2⟩ (fun hHeld => ?_)
   clear hK K
   refine zU 68 ?_
   refine zP 12 69 (bl 14 8191) HT_ ?_
   refine zP 13 70 (bl 14 16383) HT_ ?_
   refine done_ (done_of HT_.out (by kernel_rfl)) ?_
   try go_wp2
   go_roundg k1
   case measure => have := y2.out; omega
   case rel => exact ⟨(wrap64 (l + 1)), zR, H', ⟨by have := y2.out; omega⟩, ⟨Kd.N_mono (zlN B.out) (fun _ hk => hk.1)⟩, ⟨Kd.N_mono (zlN z.out) (fun _ hk => hk.1)⟩, ⟨zM y⟩, ⟨zB⟩⟩
 all_goals go_ret
 all_goals exact ⟨zE, zB⟩
end Go.Proofs.Ytdlhmhgpafegpaa.PFnExactWeights
