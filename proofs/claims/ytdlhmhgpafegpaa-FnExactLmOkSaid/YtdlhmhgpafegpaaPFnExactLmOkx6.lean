-- Printed out of the translation by this session's own turned copy of a printer; Lean checks it.
import Derived.Test.YtdlhmhgpafegpaaPFnExactLmOkx0
import Derived.Test.YtdlhmhgpafegpaaPFnExactLmOkx3
import Derived.Test.YtdlhmhgpafegpaaPFnExactLmOkx4
import Derived.Test.YtdlhmhgpafegpaaPFnExactLmOkx5
namespace Go.Proofs.Ytdlhmhgpafegpaa.PFnExactLmOk
open Go.RowKit Go.Proofs.YtdlhmhgpafegpaaW.PrintWords Go.Proofs.YtdlhmhgpafegpaaW.PrintLast Go.Proofs.YtdlhmhgpafegpaaW.PrintMore
attribute [local go_sem] max2_int min2_int max_two min_two max_three min_three max_four min_four
set_option linter.unusedVariables false
set_option linter.unusedSimpArgs false
set_option maxHeartbeats 8000000
set_option maxRecDepth 100000
def impl_LmOk.l0 : Nat → List (S57) → List (S57) → Int → Int → Int → List (S57) → Option (Bool)
 | 0, _, _, _, _, _, _ => none
 | k + 1, x, q, y, a, l, u => if a < y then (if 0 ≤ a then (if a < (q.length : Int) then (if (((rd_T57 q a).f0).length : Int) > 4 then (some false) else ((impl_allWithin.f k ((rd_T57 q a).f0) 0 (wrap64 (l - 1))).bind fun z => (if z = true then (if (((rd_T57 q a).f1).length : Int) = l then ((impl_allWithin.f k ((rd_T57 q a).f1) 0 1000).bind fun A => (if A = true then ((impl_all.f k ((rd_T57 q a).f1) 0).bind fun B => (if B = true then (some false) else (if a > 0 then (if 0 ≤ (wrap64 (a - 1)) then (if (wrap64 (a - 1)) < (x.length : Int) then ((impl_byKey.f k ((rd_T57 x (wrap64 (a - 1))).f0) ((rd_T57 q a).f0)).bind fun D => (if D = 0 then (some false) else (impl_LmOk.l0 k x q y (wrap64 (a + 1)) l u))) else (none)) else (none)) else (impl_LmOk.l0 k x q y (wrap64 (a + 1)) l u)))) else (some false))) else (some false)) else (some false)))) else (none)) else (none)) else (if (x.length : Int) > 0 then (if 0 < (x.length : Int) then (some ((((rd_T57 x 0).f0).length : Int) == 0)) else (none)) else (some false))
def impl_LmOk.f (k : Nat) (a : Int) (l : List (S57)) : Option (Bool) := (impl_within.f a 1 64).bind fun u => (if u = true then (if (l.length : Int) > 500 then (some false) else ((impl_sortedRows.f a l).bind fun q => (impl_LmOk.l0 k q q (q.length : Int) 0 a l))) else (some false))
def impl_LmOk.T9 : Bool × List (List Nat × List Nat) := (true, [([], []), ([0], [0]), ([1], [1]), ([2], [2]), ([2], [2]), ([4, 2], [2, 4]), ([3, 5, 2], [2, 3, 5]), ([6, 2], [2, 6]), ([7, 2], [2, 7]), ([2], [2]), ([9, 2], [2, 9]), ([8, 10, 2, 2], [2, 8, 10]), ([11, 2], [2, 11]), ([2, 12], [2, 12])])
def impl_LmOk.B9 : List Nat := [0, 1, 3, 7, 7, 23, 63, 127, 255, 7, 519, 2047, 4095, 8191]
theorem impl_LmOk.tab9 : rtab .any (opsOf Try.f10 9) = impl_LmOk.T9 := by kernel_rfl
theorem impl_LmOk.bits9 : waitsOk impl_LmOk.T9.2 impl_LmOk.B9 = true := by kernel_rfl
theorem impl_LmOk.calls (k) (y0) (V0) (X0) (E0 : List (S57)) (r : Bool) (w) (n2 : Kd.C k57 w V0 E0.length E0) (o2 : E0.length ≤ X0) (h : impl_LmOk.f k y0 E0 = some r) :
 Calls Try.prog 10 #[.agg #[.int .i64 y0, .slice V0 E0.length X0]] w fun e w' => e = .returned (.bool r) ∧ Below w.heap.size w w' := by
 have o6 := Try.underlying29
 have p6 := Try.underlying57
 have b3 := zK n2
 have d3 := zK o2
 clear n2 o2
 have HB := zK (Below.refl w.heap.size w)
 have H : ((impl_within.f y0 1 64).bind fun g2 => (if g2 = true then (if (E0.length : Int) > 500 then (some false) else ((impl_sortedRows.f y0 E0).bind fun l => (impl_LmOk.l0 k l l (l.length : Int) 0 y0 E0))) else (some false))) = some r := h
 clear h
 replace H := z6 H
 obtain ⟨g2, t3, H⟩ := H
 have A2 := zK t3
 clear t3
 rcases zN (g2 = true) with c3 | c3
 replace c3 := Bool.eq_false_iff.mpr c3
 subst c3
 rw [if_neg (show ¬ (false = true) by decide)] at H
 obtain rfl := z5 H
 rotate_left
 subst c3
 rw [if_pos rfl] at H
 by_cases c4 : (E0.length : Int) > 500
 rw [if_pos c4] at H
 have J2 := z1 c4
 have L2 : decide (500 < E0.length) = true := z1 (by omega)
 clear c4
 obtain rfl := z5 H
 rotate_left
 rw [if_neg c4] at H
 have J2 := z2 c4
 have L2 : decide (500 < E0.length) = false := z2 (by omega)
 clear c4
 replace H := z6 H
 obtain ⟨l, x3, H⟩ := H
 have A7 := zK x3
 clear x3
 have H' := zK H
 clear H
 all_goals go_enter Try.func10, Try.ntmps10
 all_goals go_wp2_with (first | ((with_reducible refine gd 1 rfl ?_); (try (refine gate_guard (by rfl) ?_; dsimp only)); refine zJ 1 #[.int .i64 y0, .slice V0 E0.length X0] 29 ?_; intro T hg w8 hbox hb; have i0 := z8 hb; have j0 := zK (hbox); have m0 := z9 hg; have n0 := z9 hg; revert i0 j0 m0 n0; clear HB; intro HB u e3 I5; clear hb hbox hg; obtain ⟨M2, N2, O2, R2⟩ := zc2 u) | ((with_reducible refine gc 32 rfl ?_); refine zF 8 Try.func32 #[.int .i64 y0, .int .i64 1, .int .i64 64] rfl zL ?_; (with_reducible refine (impl_within.calls y0 1 64 _ _ A2.out).mono ?_); rintro e w' ⟨rfl, ⟨nd, rfl⟩⟩; refine ⟨_, rfl, ?_⟩) | ((with_reducible refine gc 33 rfl ?_); refine zF 17 Try.func33 #[.agg #[.int .i64 y0, .slice V0 E0.length X0]] rfl zL ?_; refine (impl_sortedRows.calls y0 (fun k_ => k_ < w.heap.size) _ _ E0 l _ (Kd.V_mk d3.out (Kd.F_below (Kd.C_F k57_heap b3.out) zB)) A7.out).mono ?_; rintro e t6 ⟨v181, rfl, x5, hb⟩; refine ⟨_, rfl, ?_⟩; have i0 := zK (Kd.N_lower (Kd.N_mono (ok' := fun k_ => k_ ≠ T) x5 (fun k_ hk_ => Or.elim hk_ (fun hs_ => fun e_ => Nat.not_le.2 hs_ (by rw [e_]; exact e3.out)) (fun hn_ => (Kd.freshB (zM u) k_ hn_)))) (zz zB)); have j0 := z7 u hb; have m0 := z8 hb; revert i0 j0 m0; clear u HB; intro b2 u HB; obtain ⟨T2, D0, A3⟩ := Kd.N_slice b2.out; subst A3))
 · go_loopg [20] k (fun kq v20 w' => ∃ (a : Int), v20 = .int .i64 a ∧ Aside0 (impl_LmOk.l0 kq l l (l.length : Int) a y0 E0 = some r) ∧ Aside0 (kq ≤ k) ∧ Aside0 (Kd.N k57 57 w' w.heap.size (fun k_ => k_ ≠ T) (.slice T2 l.length D0) l) ∧ Aside0 (Kd.N k57 57 w' w.heap.size (fun k_ => k_ ≠ T) (.slice T2 l.length D0) l) ∧ Aside0 (w'.heap[T]? = some (.cells #[.int .i64 y0, (.slice V0 E0.length X0)] 29 (0, 0))) ∧ Aside0 (Below w.heap.size w w'))
   case atStart => exact ⟨(0), zR, H', ⟨Nat.le_refl _⟩, ⟨zkN b2⟩, ⟨zkN b2⟩, ⟨zM u⟩, ⟨zB⟩⟩
   clear H'
   try clear c1
   try clear p2
   try clear c3
   try clear c4
   try clear J2
   try clear L2
   try clear x6
   try clear y5 A5 B5 C5
   try clear M2 N2 O2 R2
   obtain ⟨a, rfl, HA, q2, z, x, u, HB⟩ := hrel
   rcases gk with _ | k1
   · exact absurd HA.out (by simp [impl_LmOk.l0])
   have H := HA.out
   clear HA
   simp only [impl_LmOk.l0] at H
   by_cases N1 : a < (l.length : Int)
   rotate_left
   · rw [if_neg N1] at H
     have f3 := z2 N1
     clear N1
     by_cases O1 : (l.length : Int) > 0
     rotate_left
     · rw [if_neg O1] at H
       have g3 := z2 O1
       have i3 : decide (0 < l.length) = false := z2 (by omega)
       clear O1
       obtain rfl := z5 H
       go_wp2
       go_ret
       exact ⟨zE, zB⟩
     rw [if_pos O1] at H
     have g3 := z1 O1
     have i3 : decide (0 < l.length) = true := z1 (by omega)
     clear O1
     by_cases t2 : 0 < (l.length : Int)
     rotate_left
     · rw [if_neg t2] at H
       exact absurd H (by simp)
     rw [if_pos t2] at H
     have J5 := z1 t2
     have L5 : decide (0 < l.length) = true := z1 (by omega)
     clear t2
     obtain rfl := z5 H
     have c2 : 0 ≤ (0 : Int) := (by omega)
     have d2 : 0 < (l.length : Int) := z3
     obtain ⟨M5, D5, E5, F5, G5, B3, t1, x1, R1, S1, T1, U1⟩ := at_T57 (Kd.N_reads' z.out).2.2 0 c2 d2
     cases B3
     obtain ⟨ce190, hce190, hMe190, hcc190⟩ := Kd.N_get z.out z57 0 c2 (by first | exact d2 | exact z3 | (have e_ := (Kd.N_reads' z.out).1; omega))
     obtain ⟨ua190_0, uc190_0, ua190_1, uc190_1, rfl, ul190_0, ge190_0, ul190_1, ge190_1⟩ := k57_openF hMe190
     have y1 := hcc190 0 _ rfl
     rw [Nat.add_zero] at y1
     replace y1 := z5 (y1.symm.trans t1)
     injection y1 with hva_ hvn_ hvc_
     rw [hva_] at ge190_0
     rw [hvc_] at ul190_0
     have HL190_0 := zK (show Kd.V (Kd.int .i64) 3 _ w.heap.size _ _ ((rd_T57 l 0).f0) from Kd.V_mk ul190_0 ge190_0)
     clear hva_ hvn_ hvc_ ge190_0 ul190_0
     have A1 := hcc190 1 _ rfl
     rw [add_field _ _ 1 (by omega)] at A1
     replace A1 := z5 (A1.symm.trans x1)
     injection A1 with hva_ hvn_ hvc_
     rw [hva_] at ge190_1
     rw [hvc_] at ul190_1
     have HL190_1 := zK (show Kd.V (Kd.int .i64) 3 _ w.heap.size _ _ ((rd_T57 l 0).f1) from Kd.V_mk ul190_1 ge190_1)
     clear hva_ hvn_ hvc_ ge190_1 ul190_1
     clear hcc190 hce190
     have qi190 : (0 < l.length) = True := eq_true (by omega)
     (try rw [show ((0 : Int)).toNat = 0 from rfl] at t1)
     (try rw [show 0 * 2 = 0 from rfl] at t1)
     (try rw [Addr.add_zero'] at t1)
     (try rw [show ((0 : Int)).toNat = 0 from rfl] at x1)
     (try rw [show 0 * 2 = 0 from rfl] at x1)
     (try rw [Addr.add_zero'] at x1)
     have L3 := zK S1
     have M3 := zK R1
     clear S1 R1
     have N3 := zK U1
     have O3 := zK T1
     clear U1 T1
     replace c2 := eq_true c2
     replace d2 := eq_true d2
     go_wp2
     go_ret
     exact ⟨zE, zB⟩
   rw [if_pos N1] at H
   have f3 := z1 N1
   clear N1
   by_cases x2 : 0 ≤ a
   rotate_left
   · rw [if_neg x2] at H
     exact absurd H (by simp)
   rw [if_pos x2] at H
   have N5 := z1 x2
   clear x2
   by_cases y2 : a < (l.length : Int)
   rotate_left
   · rw [if_neg y2] at H
     exact absurd H (by simp)
   rw [if_pos y2] at H
   have O5 := z1 y2
   clear y2
   by_cases V1 : (((rd_T57 l a).f0).length : Int) > 4
   · rw [if_pos V1] at H
     have j3 := z1 V1
     have l3 : decide (4 < ((rd_T57 l a).f0).length) = true := z1 (by omega)
     clear V1
     obtain rfl := z5 H
     have c0 : 0 ≤ (a : Int) := z3
     have d0 : a < (l.length : Int) := z3
     obtain ⟨O, A, B, L, M, L0, A0, B0, U, X, a0, b0⟩ := at_T57 (Kd.N_reads' x.out).2.2 a c0 d0
     cases L0
     obtain ⟨ce183, hce183, hMe183, hcc183⟩ := Kd.N_get x.out z57 a c0 (by first | exact d0 | exact z3 | (have e_ := (Kd.N_reads' x.out).1; omega))
     obtain ⟨ua183_0, uc183_0, ua183_1, uc183_1, rfl, ul183_0, ge183_0, ul183_1, ge183_1⟩ := k57_openF hMe183
     have D := hcc183 0 _ rfl
     rw [Nat.add_zero] at D
     replace D := z5 (D.symm.trans A0)
     injection D with hva_ hvn_ hvc_
     rw [hva_] at ge183_0
     rw [hvc_] at ul183_0
     have HL183_0 := zK (show Kd.V (Kd.int .i64) 3 _ w.heap.size _ _ ((rd_T57 l a).f0) from Kd.V_mk ul183_0 ge183_0)
     clear hva_ hvn_ hvc_ ge183_0 ul183_0
     have E := hcc183 1 _ rfl
     rw [add_field _ _ 1 (by omega)] at E
     replace E := z5 (E.symm.trans B0)
     injection E with hva_ hvn_ hvc_
     rw [hva_] at ge183_1
     rw [hvc_] at ul183_1
     have HL183_1 := zK (show Kd.V (Kd.int .i64) 3 _ w.heap.size _ _ ((rd_T57 l a).f1) from Kd.V_mk ul183_1 ge183_1)
     clear hva_ hvn_ hvc_ ge183_1 ul183_1
     clear hcc183 hce183
     have I := zK X
     have t0 := zK U
     clear X U
     have J := zK b0
     have x0 := zK a0
     clear b0 a0
     replace c0 := eq_true c0
     replace d0 := eq_true d0
     go_wp2_with (first | ((with_reducible refine gd 5 rfl ?_); (try (refine gate_guard (by rfl) ?_; dsimp only)); refine zJ 5 #[.slice none 0 0, .slice none 0 0] 57 ?_; intro q hg y6 hbox hb; have i0 := zK (Kd.N_below (Kd.N_elderB (zkN z) q (Nat.le_of_eq hg.symm)) hb); have j0 := zK (Kd.N_below (Kd.N_elderB (zkN x) q (Nat.le_of_eq hg.symm)) hb); have m0 := zK (Kd.V_below (Kd.V_elderB (zkV HL183_0) q (Nat.le_of_eq hg.symm)) hb); have n0 := zK (Kd.V_below (Kd.V_elderB (zkV HL183_1) q (Nat.le_of_eq hg.symm)) hb); have o0 := z7 u hb; have p0 := zK (z4 (by repeat (first | (with_reducible exact I.out) | (with_reducible refine Kd.C_alloc ?_ _) | (with_reducible refine Kd.C_drewN ?_ _) | (with_reducible refine Kd.C_drew ?_) | exact I.out)) hb); have q0 := zK (z4 (by repeat (first | (with_reducible exact J.out) | (with_reducible refine Kd.C_alloc ?_ _) | (with_reducible refine Kd.C_drewN ?_ _) | (with_reducible refine Kd.C_drew ?_) | exact J.out)) hb); have O0 := z8 hb; have R0 := zK (hbox); have S0 := z9 hg; have G0 := z9 hg; have M0 := zHH hg u; have N0 := zGG hg u; revert i0 j0 m0 n0 o0 p0 q0 O0 R0 S0 G0 M0 N0; clear z x HL183_0 HL183_1 u I J HB; intro z x HL183_0 HL183_1 u I J HB y g1 i1 e0 g0; clear hb hbox hg; have R5 := g0.out; have S5 := e0.out; obtain ⟨R3, S3, T3, U3⟩ := zc2 y))
     go_ret
     exact ⟨zE, zB⟩
   rw [if_neg V1] at H
   have j3 := z2 V1
   have l3 : decide (4 < ((rd_T57 l a).f0).length) = false := z2 (by omega)
   clear V1
   replace H := z6 H
   obtain ⟨C3, U2, H⟩ := H
   have C1 := zK U2
   clear U2
   by_cases B2 : C3 = true
   rotate_left
   · replace B2 := Bool.eq_false_iff.mpr B2
     subst B2
     rw [if_neg (show ¬ (false = true) by decide)] at H
     obtain rfl := z5 H
     have c0 : 0 ≤ (a : Int) := z3
     have d0 : a < (l.length : Int) := z3
     obtain ⟨O, A, B, L, M, L0, A0, B0, U, X, a0, b0⟩ := at_T57 (Kd.N_reads' x.out).2.2 a c0 d0
     cases L0
     obtain ⟨ce183, hce183, hMe183, hcc183⟩ := Kd.N_get x.out z57 a c0 (by first | exact d0 | exact z3 | (have e_ := (Kd.N_reads' x.out).1; omega))
     obtain ⟨ua183_0, uc183_0, ua183_1, uc183_1, rfl, ul183_0, ge183_0, ul183_1, ge183_1⟩ := k57_openF hMe183
     have D := hcc183 0 _ rfl
     rw [Nat.add_zero] at D
     replace D := z5 (D.symm.trans A0)
     injection D with hva_ hvn_ hvc_
     rw [hva_] at ge183_0
     rw [hvc_] at ul183_0
     have HL183_0 := zK (show Kd.V (Kd.int .i64) 3 _ w.heap.size _ _ ((rd_T57 l a).f0) from Kd.V_mk ul183_0 ge183_0)
     clear hva_ hvn_ hvc_ ge183_0 ul183_0
     have E := hcc183 1 _ rfl
     rw [add_field _ _ 1 (by omega)] at E
     replace E := z5 (E.symm.trans B0)
     injection E with hva_ hvn_ hvc_
     rw [hva_] at ge183_1
     rw [hvc_] at ul183_1
     have HL183_1 := zK (show Kd.V (Kd.int .i64) 3 _ w.heap.size _ _ ((rd_T57 l a).f1) from Kd.V_mk ul183_1 ge183_1)
     clear hva_ hvn_ hvc_ ge183_1 ul183_1
     clear hcc183 hce183
     have I := zK X
     have t0 := zK U
     clear X U
     have J := zK b0
     have x0 := zK a0
     clear b0 a0
     replace c0 := eq_true c0
     replace d0 := eq_true d0
     go_wp2_with (first | ((with_reducible refine gd 5 rfl ?_); (try (refine gate_guard (by rfl) ?_; dsimp only)); refine zJ 5 #[.slice none 0 0, .slice none 0 0] 57 ?_; intro q hg A6 hbox hb; have i0 := zK (Kd.N_below (Kd.N_elderB (zkN z) q (Nat.le_of_eq hg.symm)) hb); have j0 := zK (Kd.N_below (Kd.N_elderB (zkN x) q (Nat.le_of_eq hg.symm)) hb); have m0 := zK (Kd.V_below (Kd.V_elderB (zkV HL183_0) q (Nat.le_of_eq hg.symm)) hb); have n0 := zK (Kd.V_below (Kd.V_elderB (zkV HL183_1) q (Nat.le_of_eq hg.symm)) hb); have o0 := z7 u hb; have p0 := zK (z4 (by repeat (first | (with_reducible exact I.out) | (with_reducible refine Kd.C_alloc ?_ _) | (with_reducible refine Kd.C_drewN ?_ _) | (with_reducible refine Kd.C_drew ?_) | exact I.out)) hb); have q0 := zK (z4 (by repeat (first | (with_reducible exact J.out) | (with_reducible refine Kd.C_alloc ?_ _) | (with_reducible refine Kd.C_drewN ?_ _) | (with_reducible refine Kd.C_drew ?_) | exact J.out)) hb); have O0 := z8 hb; have R0 := zK (hbox); have S0 := z9 hg; have G0 := z9 hg; have M0 := zHH hg u; have N0 := zGG hg u; revert i0 j0 m0 n0 o0 p0 q0 O0 R0 S0 G0 M0 N0; clear z x HL183_0 HL183_1 u I J HB; intro z x HL183_0 HL183_1 u I J HB y g1 i1 e0 g0; clear hb hbox hg; have T5 := g0.out; have U5 := e0.out; obtain ⟨V3, X3, a4, b4⟩ := zc2 y; obtain ⟨d4, e4, f4, g4⟩ := zc2 u) | (go_at_call 34; (with_reducible refine (impl_allWithin.calls k1 _ _ ((rd_T57 l a).f0) 0 (wrap64 (y0 - 1)) false _ ?side1 ?side2 C1.out).mono ?_); (case side1 => repeat (first | exact ((Kd.V_reads' (Kd.V_mono (zlV (Kd.V_mono HL183_0.out (fun k_ hk => (⟨hk, hk.2⟩ : _ ∧ k_ ≠ q)))) (fun _ h_ => h_.1))).2.2) | (with_reducible refine Kd.C_alloc ?_ _) | (with_reducible refine Kd.C_drewN ?_ _) | (with_reducible refine Kd.C_drew ?_))); (case side2 => exact t0.out); rintro e w' ⟨rfl, ⟨nd, rfl⟩⟩))
     go_ret
     exact ⟨zE, zB⟩
   subst B2
   rw [if_pos rfl] at H
   by_cases G1 : (((rd_T57 l a).f1).length : Int) = y0
   rotate_left
   · rw [if_neg G1] at H
     have m3 := beq_eq_false_iff_ne.mpr G1
     have n3 := bne_iff_ne.mpr G1
     obtain rfl := z5 H
     have c0 : 0 ≤ (a : Int) := z3
     have d0 : a < (l.length : Int) := z3
     obtain ⟨O, A, B, L, M, L0, A0, B0, U, X, a0, b0⟩ := at_T57 (Kd.N_reads' x.out).2.2 a c0 d0
     cases L0
     obtain ⟨ce183, hce183, hMe183, hcc183⟩ := Kd.N_get x.out z57 a c0 (by first | exact d0 | exact z3 | (have e_ := (Kd.N_reads' x.out).1; omega))
     obtain ⟨ua183_0, uc183_0, ua183_1, uc183_1, rfl, ul183_0, ge183_0, ul183_1, ge183_1⟩ := k57_openF hMe183
     have D := hcc183 0 _ rfl
     rw [Nat.add_zero] at D
     replace D := z5 (D.symm.trans A0)
     injection D with hva_ hvn_ hvc_
     rw [hva_] at ge183_0
     rw [hvc_] at ul183_0
     have HL183_0 := zK (show Kd.V (Kd.int .i64) 3 _ w.heap.size _ _ ((rd_T57 l a).f0) from Kd.V_mk ul183_0 ge183_0)
     clear hva_ hvn_ hvc_ ge183_0 ul183_0
     have E := hcc183 1 _ rfl
     rw [add_field _ _ 1 (by omega)] at E
     replace E := z5 (E.symm.trans B0)
     injection E with hva_ hvn_ hvc_
     rw [hva_] at ge183_1
     rw [hvc_] at ul183_1
     have HL183_1 := zK (show Kd.V (Kd.int .i64) 3 _ w.heap.size _ _ ((rd_T57 l a).f1) from Kd.V_mk ul183_1 ge183_1)
     clear hva_ hvn_ hvc_ ge183_1 ul183_1
     clear hcc183 hce183
     have I := zK X
     have t0 := zK U
     clear X U
     have J := zK b0
     have x0 := zK a0
     clear b0 a0
     replace c0 := eq_true c0
     replace d0 := eq_true d0
     go_wp2_with (first | ((with_reducible refine gd 5 rfl ?_); (try (refine gate_guard (by rfl) ?_; dsimp only)); refine zJ 5 #[.slice none 0 0, .slice none 0 0] 57 ?_; intro q hg B6 hbox hb; have i0 := zK (Kd.N_below (Kd.N_elderB (zkN z) q (Nat.le_of_eq hg.symm)) hb); have j0 := zK (Kd.N_below (Kd.N_elderB (zkN x) q (Nat.le_of_eq hg.symm)) hb); have m0 := zK (Kd.V_below (Kd.V_elderB (zkV HL183_0) q (Nat.le_of_eq hg.symm)) hb); have n0 := zK (Kd.V_below (Kd.V_elderB (zkV HL183_1) q (Nat.le_of_eq hg.symm)) hb); have o0 := z7 u hb; have p0 := zK (z4 (by repeat (first | (with_reducible exact I.out) | (with_reducible refine Kd.C_alloc ?_ _) | (with_reducible refine Kd.C_drewN ?_ _) | (with_reducible refine Kd.C_drew ?_) | exact I.out)) hb); have q0 := zK (z4 (by repeat (first | (with_reducible exact J.out) | (with_reducible refine Kd.C_alloc ?_ _) | (with_reducible refine Kd.C_drewN ?_ _) | (with_reducible refine Kd.C_drew ?_) | exact J.out)) hb); have O0 := z8 hb; have R0 := zK (hbox); have S0 := z9 hg; have G0 := z9 hg; have M0 := zHH hg u; have N0 := zGG hg u; revert i0 j0 m0 n0 o0 p0 q0 O0 R0 S0 G0 M0 N0; clear z x HL183_0 HL183_1 u I J HB; intro z x HL183_0 HL183_1 u I J HB y g1 i1 e0 g0; clear hb hbox hg; have V5 := g0.out; have X5 := e0.out; obtain ⟨i4, j4, l4, m4⟩ := zc2 y; obtain ⟨n4, o4, p4, q4⟩ := zc2 u) | (go_at_call 34; (with_reducible refine (impl_allWithin.calls k1 _ _ ((rd_T57 l a).f0) 0 (wrap64 (y0 - 1)) true _ ?side1 ?side2 C1.out).mono ?_); (case side1 => repeat (first | exact ((Kd.V_reads' (Kd.V_mono (zlV (Kd.V_mono HL183_0.out (fun k_ hk => (⟨hk, hk.2⟩ : _ ∧ k_ ≠ q)))) (fun _ h_ => h_.1))).2.2) | (with_reducible refine Kd.C_alloc ?_ _) | (with_reducible refine Kd.C_drewN ?_ _) | (with_reducible refine Kd.C_drew ?_))); (case side2 => exact t0.out); rintro e w' ⟨rfl, ⟨nd, rfl⟩⟩))
     go_ret
     exact ⟨zE, zB⟩
   rw [if_pos G1] at H
   have m3 := beq_iff_eq.mpr G1
   have n3 := bne_eq_false_iff_eq.mpr G1
   clear G1
   replace H := z6 H
   obtain ⟨D3, V2, H⟩ := H
   have X1 := zK V2
   clear V2
   by_cases C2 : D3 = true
   rotate_left
   · replace C2 := Bool.eq_false_iff.mpr C2
     subst C2
     rw [if_neg (show ¬ (false = true) by decide)] at H
     obtain rfl := z5 H
     have c0 : 0 ≤ (a : Int) := z3
     have d0 : a < (l.length : Int) := z3
     obtain ⟨O, A, B, L, M, L0, A0, B0, U, X, a0, b0⟩ := at_T57 (Kd.N_reads' x.out).2.2 a c0 d0
     cases L0
     obtain ⟨ce183, hce183, hMe183, hcc183⟩ := Kd.N_get x.out z57 a c0 (by first | exact d0 | exact z3 | (have e_ := (Kd.N_reads' x.out).1; omega))
     obtain ⟨ua183_0, uc183_0, ua183_1, uc183_1, rfl, ul183_0, ge183_0, ul183_1, ge183_1⟩ := k57_openF hMe183
     have D := hcc183 0 _ rfl
     rw [Nat.add_zero] at D
     replace D := z5 (D.symm.trans A0)
     injection D with hva_ hvn_ hvc_
     rw [hva_] at ge183_0
     rw [hvc_] at ul183_0
     have HL183_0 := zK (show Kd.V (Kd.int .i64) 3 _ w.heap.size _ _ ((rd_T57 l a).f0) from Kd.V_mk ul183_0 ge183_0)
     clear hva_ hvn_ hvc_ ge183_0 ul183_0
     have E := hcc183 1 _ rfl
     rw [add_field _ _ 1 (by omega)] at E
     replace E := z5 (E.symm.trans B0)
     injection E with hva_ hvn_ hvc_
     rw [hva_] at ge183_1
     rw [hvc_] at ul183_1
     have HL183_1 := zK (show Kd.V (Kd.int .i64) 3 _ w.heap.size _ _ ((rd_T57 l a).f1) from Kd.V_mk ul183_1 ge183_1)
     clear hva_ hvn_ hvc_ ge183_1 ul183_1
     clear hcc183 hce183
     have I := zK X
     have t0 := zK U
     clear X U
     have J := zK b0
     have x0 := zK a0
     clear b0 a0
     replace c0 := eq_true c0
     replace d0 := eq_true d0
     go_wp2_with (first | ((with_reducible refine gd 5 rfl ?_); (try (refine gate_guard (by rfl) ?_; dsimp only)); refine zJ 5 #[.slice none 0 0, .slice none 0 0] 57 ?_; intro q hg C6 hbox hb; have i0 := zK (Kd.N_below (Kd.N_elderB (zkN z) q (Nat.le_of_eq hg.symm)) hb); have j0 := zK (Kd.N_below (Kd.N_elderB (zkN x) q (Nat.le_of_eq hg.symm)) hb); have m0 := zK (Kd.V_below (Kd.V_elderB (zkV HL183_0) q (Nat.le_of_eq hg.symm)) hb); have n0 := zK (Kd.V_below (Kd.V_elderB (zkV HL183_1) q (Nat.le_of_eq hg.symm)) hb); have o0 := z7 u hb; have p0 := zK (z4 (by repeat (first | (with_reducible exact I.out) | (with_reducible refine Kd.C_alloc ?_ _) | (with_reducible refine Kd.C_drewN ?_ _) | (with_reducible refine Kd.C_drew ?_) | exact I.out)) hb); have q0 := zK (z4 (by repeat (first | (with_reducible exact J.out) | (with_reducible refine Kd.C_alloc ?_ _) | (with_reducible refine Kd.C_drewN ?_ _) | (with_reducible refine Kd.C_drew ?_) | exact J.out)) hb); have O0 := z8 hb; have R0 := zK (hbox); have S0 := z9 hg; have G0 := z9 hg; have M0 := zHH hg u; have N0 := zGG hg u; revert i0 j0 m0 n0 o0 p0 q0 O0 R0 S0 G0 M0 N0; clear z x HL183_0 HL183_1 u I J HB; intro z x HL183_0 HL183_1 u I J HB y g1 i1 e0 g0; clear hb hbox hg; have a6 := g0.out; have b6 := e0.out; obtain ⟨s4, t4, x4, y4⟩ := zc2 y; obtain ⟨A4, B4, C4, D4⟩ := zc2 u) | (go_at_call 34; (with_reducible refine (impl_allWithin.calls k1 _ _ ((rd_T57 l a).f0) 0 (wrap64 (y0 - 1)) true _ ?side1 ?side2 C1.out).mono ?_); (case side1 => repeat (first | exact ((Kd.V_reads' (Kd.V_mono (zlV (Kd.V_mono HL183_0.out (fun k_ hk => (⟨hk, hk.2⟩ : _ ∧ k_ ≠ q)))) (fun _ h_ => h_.1))).2.2) | (with_reducible refine Kd.C_alloc ?_ _) | (with_reducible refine Kd.C_drewN ?_ _) | (with_reducible refine Kd.C_drew ?_))); (case side2 => exact t0.out); rintro e w' ⟨rfl, ⟨nd, rfl⟩⟩) | (go_at_call 34; (with_reducible refine (impl_allWithin.calls k1 _ _ ((rd_T57 l a).f1) 0 1000 false _ ?side1 ?side2 X1.out).mono ?_); (case side1 => repeat (first | exact ((Kd.V_reads' (Kd.V_mono (zlV (Kd.V_mono HL183_1.out (fun k_ hk => (⟨hk, hk.2⟩ : _ ∧ k_ ≠ q)))) (fun _ h_ => h_.1))).2.2) | (with_reducible refine Kd.C_alloc ?_ _) | (with_reducible refine Kd.C_drewN ?_ _) | (with_reducible refine Kd.C_drew ?_))); (case side2 => exact x0.out); rintro e w' ⟨rfl, ⟨nd, rfl⟩⟩))
     go_ret
     exact ⟨zE, zB⟩
   subst C2
   rw [if_pos rfl] at H
   replace H := z6 H
   obtain ⟨E3, X2, H⟩ := H
   have f2 := zK X2
   clear X2
   by_cases D2 : E3 = true
   · subst D2
     rw [if_pos rfl] at H
     obtain rfl := z5 H
     have c0 : 0 ≤ (a : Int) := z3
     have d0 : a < (l.length : Int) := z3
     obtain ⟨O, A, B, L, M, L0, A0, B0, U, X, a0, b0⟩ := at_T57 (Kd.N_reads' x.out).2.2 a c0 d0
     cases L0
     obtain ⟨ce183, hce183, hMe183, hcc183⟩ := Kd.N_get x.out z57 a c0 (by first | exact d0 | exact z3 | (have e_ := (Kd.N_reads' x.out).1; omega))
     obtain ⟨ua183_0, uc183_0, ua183_1, uc183_1, rfl, ul183_0, ge183_0, ul183_1, ge183_1⟩ := k57_openF hMe183
     have D := hcc183 0 _ rfl
     rw [Nat.add_zero] at D
     replace D := z5 (D.symm.trans A0)
     injection D with hva_ hvn_ hvc_
     rw [hva_] at ge183_0
     rw [hvc_] at ul183_0
     have HL183_0 := zK (show Kd.V (Kd.int .i64) 3 _ w.heap.size _ _ ((rd_T57 l a).f0) from Kd.V_mk ul183_0 ge183_0)
     clear hva_ hvn_ hvc_ ge183_0 ul183_0
     have E := hcc183 1 _ rfl
     rw [add_field _ _ 1 (by omega)] at E
     replace E := z5 (E.symm.trans B0)
     injection E with hva_ hvn_ hvc_
     rw [hva_] at ge183_1
     rw [hvc_] at ul183_1
     have HL183_1 := zK (show Kd.V (Kd.int .i64) 3 _ w.heap.size _ _ ((rd_T57 l a).f1) from Kd.V_mk ul183_1 ge183_1)
     clear hva_ hvn_ hvc_ ge183_1 ul183_1
     clear hcc183 hce183
     have I := zK X
     have t0 := zK U
     clear X U
     have J := zK b0
     have x0 := zK a0
     clear b0 a0
     replace c0 := eq_true c0
     replace d0 := eq_true d0
     go_wp2_with (first | ((with_reducible refine gd 5 rfl ?_); (try (refine gate_guard (by rfl) ?_; dsimp only)); refine zJ 5 #[.slice none 0 0, .slice none 0 0] 57 ?_; intro q hg D6 hbox hb; have i0 := zK (Kd.N_below (Kd.N_elderB (zkN z) q (Nat.le_of_eq hg.symm)) hb); have j0 := zK (Kd.N_below (Kd.N_elderB (zkN x) q (Nat.le_of_eq hg.symm)) hb); have m0 := zK (Kd.V_below (Kd.V_elderB (zkV HL183_0) q (Nat.le_of_eq hg.symm)) hb); have n0 := zK (Kd.V_below (Kd.V_elderB (zkV HL183_1) q (Nat.le_of_eq hg.symm)) hb); have o0 := z7 u hb; have p0 := zK (z4 (by repeat (first | (with_reducible exact I.out) | (with_reducible refine Kd.C_alloc ?_ _) | (with_reducible refine Kd.C_drewN ?_ _) | (with_reducible refine Kd.C_drew ?_) | exact I.out)) hb); have q0 := zK (z4 (by repeat (first | (with_reducible exact J.out) | (with_reducible refine Kd.C_alloc ?_ _) | (with_reducible refine Kd.C_drewN ?_ _) | (with_reducible refine Kd.C_drew ?_) | exact J.out)) hb); have O0 := z8 hb; have R0 := zK (hbox); have S0 := z9 hg; have G0 := z9 hg; have M0 := zHH hg u; have N0 := zGG hg u; revert i0 j0 m0 n0 o0 p0 q0 O0 R0 S0 G0 M0 N0; clear z x HL183_0 HL183_1 u I J HB; intro z x HL183_0 HL183_1 u I J HB y g1 i1 e0 g0; clear hb hbox hg; have c6 := g0.out; have d6 := e0.out; obtain ⟨E4, F4, G4, I4⟩ := zc2 y; obtain ⟨J4, L4, M4, N4⟩ := zc2 u) | (go_at_call 34; (with_reducible refine (impl_allWithin.calls k1 _ _ ((rd_T57 l a).f0) 0 (wrap64 (y0 - 1)) true _ ?side1 ?side2 C1.out).mono ?_); (case side1 => repeat (first | exact ((Kd.V_reads' (Kd.V_mono (zlV (Kd.V_mono HL183_0.out (fun k_ hk => (⟨hk, hk.2⟩ : _ ∧ k_ ≠ q)))) (fun _ h_ => h_.1))).2.2) | (with_reducible refine Kd.C_alloc ?_ _) | (with_reducible refine Kd.C_drewN ?_ _) | (with_reducible refine Kd.C_drew ?_))); (case side2 => exact t0.out); rintro e w' ⟨rfl, ⟨nd, rfl⟩⟩) | (go_at_call 34; (with_reducible refine (impl_allWithin.calls k1 _ _ ((rd_T57 l a).f1) 0 1000 true _ ?side1 ?side2 X1.out).mono ?_); (case side1 => repeat (first | exact ((Kd.V_reads' (Kd.V_mono (zlV (Kd.V_mono HL183_1.out (fun k_ hk => (⟨hk, hk.2⟩ : _ ∧ k_ ≠ q)))) (fun _ h_ => h_.1))).2.2) | (with_reducible refine Kd.C_alloc ?_ _) | (with_reducible refine Kd.C_drewN ?_ _) | (with_reducible refine Kd.C_drew ?_))); (case side2 => exact x0.out); rintro e w' ⟨rfl, ⟨nd, rfl⟩⟩) | (go_at_call 35; (with_reducible refine (impl_all.calls k1 _ _ ((rd_T57 l a).f1) 0 true _ ?side1 ?side2 f2.out).mono ?_); (case side1 => repeat (first | exact ((Kd.V_reads' (Kd.V_mono (zlV (Kd.V_mono HL183_1.out (fun k_ hk => (⟨hk, hk.2⟩ : _ ∧ k_ ≠ q)))) (fun _ h_ => h_.1))).2.2) | (with_reducible refine Kd.C_alloc ?_ _) | (with_reducible refine Kd.C_drewN ?_ _) | (with_reducible refine Kd.C_drew ?_))); (case side2 => exact x0.out); rintro e w' ⟨rfl, ⟨nd, rfl⟩⟩))
     go_ret
     exact ⟨zE, zB⟩
   replace D2 := Bool.eq_false_iff.mpr D2
   subst D2
   rw [if_neg (show ¬ (false = true) by decide)] at H
   by_cases a2 : a > 0
   rotate_left
   · rw [if_neg a2] at H
     have o3 := z2 a2
     clear a2
     have H' := zK H
     clear H
     have c0 : 0 ≤ (a : Int) := z3
     have d0 : a < (l.length : Int) := z3
     obtain ⟨O, A, B, L, M, L0, A0, B0, U, X, a0, b0⟩ := at_T57 (Kd.N_reads' x.out).2.2 a c0 d0
     cases L0
     obtain ⟨ce183, hce183, hMe183, hcc183⟩ := Kd.N_get x.out z57 a c0 (by first | exact d0 | exact z3 | (have e_ := (Kd.N_reads' x.out).1; omega))
     obtain ⟨ua183_0, uc183_0, ua183_1, uc183_1, rfl, ul183_0, ge183_0, ul183_1, ge183_1⟩ := k57_openF hMe183
     have D := hcc183 0 _ rfl
     rw [Nat.add_zero] at D
     replace D := z5 (D.symm.trans A0)
     injection D with hva_ hvn_ hvc_
     rw [hva_] at ge183_0
     rw [hvc_] at ul183_0
     have HL183_0 := zK (show Kd.V (Kd.int .i64) 3 _ w.heap.size _ _ ((rd_T57 l a).f0) from Kd.V_mk ul183_0 ge183_0)
     clear hva_ hvn_ hvc_ ge183_0 ul183_0
     have E := hcc183 1 _ rfl
     rw [add_field _ _ 1 (by omega)] at E
     replace E := z5 (E.symm.trans B0)
     injection E with hva_ hvn_ hvc_
     rw [hva_] at ge183_1
     rw [hvc_] at ul183_1
     have HL183_1 := zK (show Kd.V (Kd.int .i64) 3 _ w.heap.size _ _ ((rd_T57 l a).f1) from Kd.V_mk ul183_1 ge183_1)
     clear hva_ hvn_ hvc_ ge183_1 ul183_1
     clear hcc183 hce183
     have I := zK X
     have t0 := zK U
     clear X U
     have J := zK b0
     have x0 := zK a0
     clear b0 a0
     replace c0 := eq_true c0
     replace d0 := eq_true d0
     try go_wp2_with (first | ((with_reducible refine gd 5 rfl ?_); (try (refine gate_guard (by rfl) ?_; dsimp only)); refine zJ 5 #[.slice none 0 0, .slice none 0 0] 57 ?_; intro q hg D1 hbox hb; have i0 := zK (Kd.N_below (Kd.N_elderB (zkN z) q (Nat.le_of_eq hg.symm)) hb); have j0 := zK (Kd.N_below (Kd.N_elderB (zkN x) q (Nat.le_of_eq hg.symm)) hb); have m0 := zK (Kd.V_below (Kd.V_elderB (zkV HL183_0) q (Nat.le_of_eq hg.symm)) hb); have n0 := zK (Kd.V_below (Kd.V_elderB (zkV HL183_1) q (Nat.le_of_eq hg.symm)) hb); have o0 := z7 u hb; have p0 := zK (z4 (by repeat (first | (with_reducible exact I.out) | (with_reducible refine Kd.C_alloc ?_ _) | (with_reducible refine Kd.C_drewN ?_ _) | (with_reducible refine Kd.C_drew ?_) | exact I.out)) hb); have q0 := zK (z4 (by repeat (first | (with_reducible exact J.out) | (with_reducible refine Kd.C_alloc ?_ _) | (with_reducible refine Kd.C_drewN ?_ _) | (with_reducible refine Kd.C_drew ?_) | exact J.out)) hb); have O0 := z8 hb; have R0 := zK (hbox); have S0 := z9 hg; have G0 := z9 hg; have M0 := zHH hg u; have N0 := zGG hg u; revert i0 j0 m0 n0 o0 p0 q0 O0 R0 S0 G0 M0 N0; clear z x HL183_0 HL183_1 u I J HB; intro z x HL183_0 HL183_1 u I J HB y g1 i1 e0 g0; clear hb hbox hg; have e6 := g0.out; have f6 := e0.out; obtain ⟨O4, R4, S4, T4⟩ := zc2 y; obtain ⟨U4, V4, X4, a5⟩ := zc2 u) | (go_at_call 34; (with_reducible refine (impl_allWithin.calls k1 _ _ ((rd_T57 l a).f0) 0 (wrap64 (y0 - 1)) true _ ?side1 ?side2 C1.out).mono ?_); (case side1 => repeat (first | exact ((Kd.V_reads' (Kd.V_mono (zlV (Kd.V_mono HL183_0.out (fun k_ hk => (⟨hk, hk.2⟩ : _ ∧ k_ ≠ q)))) (fun _ h_ => h_.1))).2.2) | (with_reducible refine Kd.C_alloc ?_ _) | (with_reducible refine Kd.C_drewN ?_ _) | (with_reducible refine Kd.C_drew ?_))); (case side2 => exact t0.out); rintro e w' ⟨rfl, ⟨nd, rfl⟩⟩) | (go_at_call 34; (with_reducible refine (impl_allWithin.calls k1 _ _ ((rd_T57 l a).f1) 0 1000 true _ ?side1 ?side2 X1.out).mono ?_); (case side1 => repeat (first | exact ((Kd.V_reads' (Kd.V_mono (zlV (Kd.V_mono HL183_1.out (fun k_ hk => (⟨hk, hk.2⟩ : _ ∧ k_ ≠ q)))) (fun _ h_ => h_.1))).2.2) | (with_reducible refine Kd.C_alloc ?_ _) | (with_reducible refine Kd.C_drewN ?_ _) | (with_reducible refine Kd.C_drew ?_))); (case side2 => exact x0.out); rintro e w' ⟨rfl, ⟨nd, rfl⟩⟩) | (go_at_call 35; (with_reducible refine (impl_all.calls k1 _ _ ((rd_T57 l a).f1) 0 false _ ?side1 ?side2 f2.out).mono ?_); (case side1 => repeat (first | exact ((Kd.V_reads' (Kd.V_mono (zlV (Kd.V_mono HL183_1.out (fun k_ hk => (⟨hk, hk.2⟩ : _ ∧ k_ ≠ q)))) (fun _ h_ => h_.1))).2.2) | (with_reducible refine Kd.C_alloc ?_ _) | (with_reducible refine Kd.C_drewN ?_ _) | (with_reducible refine Kd.C_drew ?_))); (case side2 => exact x0.out); rintro e w' ⟨rfl, ⟨nd, rfl⟩⟩))
     have i0 : Aside0 (Kd.N k57 57 ((D1.setCell ⟨q, 0, none⟩ (.slice A ((rd_T57 l a).f0).length B)).setCell ⟨q, 1, none⟩ (.slice L ((rd_T57 l a).f1).length M)) w.heap.size (fun k_ => k_ ≠ T ∧ k_ ≠ q) (.slice (some O) l.length D0) l) := ⟨Kd.N_mono (zlN (Kd.N_mono z.out (fun k_ hk => (⟨hk, hk.2⟩ : _ ∧ k_ ≠ q)))) (fun _ hk => ⟨hk.1.1, hk.1.2⟩)⟩
     have j0 : Aside0 (Kd.N k57 57 ((D1.setCell ⟨q, 0, none⟩ (.slice A ((rd_T57 l a).f0).length B)).setCell ⟨q, 1, none⟩ (.slice L ((rd_T57 l a).f1).length M)) w.heap.size (fun k_ => k_ ≠ T ∧ k_ ≠ q) (.slice (some O) l.length D0) l) := ⟨Kd.N_mono (zlN (Kd.N_mono x.out (fun k_ hk => (⟨hk, hk.2⟩ : _ ∧ k_ ≠ q)))) (fun _ hk => ⟨hk.1.1, hk.1.2⟩)⟩
     have m0 : Aside0 (Kd.V (Kd.int .i64) 3 ((D1.setCell ⟨q, 0, none⟩ (.slice A ((rd_T57 l a).f0).length B)).setCell ⟨q, 1, none⟩ (.slice L ((rd_T57 l a).f1).length M)) w.heap.size (fun k_ => some k_ ≠ (.slice (some O) l.length D0 : Value).ownBlock ∧ k_ ≠ T ∧ k_ ≠ q) (.slice A ((rd_T57 l a).f0).length B) ((rd_T57 l a).f0)) := ⟨Kd.V_mono (zlV (Kd.V_mono HL183_0.out (fun k_ hk => (⟨hk, hk.2⟩ : _ ∧ k_ ≠ q)))) (fun _ hk => ⟨hk.1.1.2, ⟨hk.1.1.1, hk.1.2⟩⟩)⟩
     have n0 : Aside0 (Kd.V (Kd.int .i64) 3 ((D1.setCell ⟨q, 0, none⟩ (.slice A ((rd_T57 l a).f0).length B)).setCell ⟨q, 1, none⟩ (.slice L ((rd_T57 l a).f1).length M)) w.heap.size (fun k_ => some k_ ≠ (.slice (some O) l.length D0 : Value).ownBlock ∧ k_ ≠ T ∧ k_ ≠ q) (.slice L ((rd_T57 l a).f1).length M) ((rd_T57 l a).f1)) := ⟨Kd.V_mono (zlV (Kd.V_mono HL183_1.out (fun k_ hk => (⟨hk, hk.2⟩ : _ ∧ k_ ≠ q)))) (fun _ hk => ⟨hk.1.1.2, ⟨hk.1.1.1, hk.1.2⟩⟩)⟩
     have o0 : Aside0 (((D1.setCell ⟨q, 0, none⟩ (.slice A ((rd_T57 l a).f0).length B)).setCell ⟨q, 1, none⟩ (.slice L ((rd_T57 l a).f1).length M)).heap[T]? = some (.cells #[.int .i64 y0, .slice V0 E0.length X0] 29 (0, 0))) := ⟨zV u⟩
     have p0 : Aside0 (((D1.setCell ⟨q, 0, none⟩ (.slice A ((rd_T57 l a).f0).length B)).setCell ⟨q, 1, none⟩ (.slice L ((rd_T57 l a).f1).length M)).heap[q]? = some (.cells #[.slice A ((rd_T57 l a).f0).length B, .slice L ((rd_T57 l a).f1).length M] 57 (0, 0))) := ⟨zW y⟩
     have q0 : Aside0 (Below w.heap.size w ((D1.setCell ⟨q, 0, none⟩ (.slice A ((rd_T57 l a).f0).length B)).setCell ⟨q, 1, none⟩ (.slice L ((rd_T57 l a).f1).length M))) := ⟨zB⟩
     (try clear z)
     (try clear x)
     (try clear HL183_0)
     (try clear HL183_1)
     (try clear u)
     (try clear y)
     (try clear HB)
     generalize ((D1.setCell ⟨q, 0, none⟩ (.slice A ((rd_T57 l a).f0).length B)).setCell ⟨q, 1, none⟩ (.slice L ((rd_T57 l a).f1).length M)) = m1 at i0 j0 m0 n0 o0 p0 q0 ⊢
     revert i0 j0 m0 n0 o0 p0 q0
     intro z x HL183_0 HL183_1 u y HB
     (try (rw [drewN_self m1]; generalize hq_ : World.drewN m1 _ = m1; have i0 : Aside0 (Kd.V (Kd.int .i64) 3 m1 w.heap.size (fun k_ => some k_ ≠ (.slice (some O) l.length D0 : Value).ownBlock ∧ k_ ≠ T ∧ k_ ≠ q) (.slice A ((rd_T57 l a).f0).length B) ((rd_T57 l a).f0)) := ⟨by rw [← hq_]; exact (zkV HL183_0)⟩; have j0 : Aside0 (Kd.V (Kd.int .i64) 3 m1 w.heap.size (fun k_ => some k_ ≠ (.slice (some O) l.length D0 : Value).ownBlock ∧ k_ ≠ T ∧ k_ ≠ q) (.slice L ((rd_T57 l a).f1).length M) ((rd_T57 l a).f1)) := ⟨by rw [← hq_]; exact (zkV HL183_1)⟩; have m0 : Aside0 (Kd.N k57 57 m1 w.heap.size (fun k_ => k_ ≠ T ∧ k_ ≠ q) (.slice (some O) l.length D0) l) := ⟨by rw [← hq_]; exact (zkN x)⟩; have n0 : Aside0 (Kd.N k57 57 m1 w.heap.size (fun k_ => k_ ≠ T ∧ k_ ≠ q) (.slice (some O) l.length D0) l) := ⟨by rw [← hq_]; exact (zkN z)⟩; have o0 : Aside0 (m1.heap[T]? = some (.cells #[.int .i64 y0, .slice V0 E0.length X0] 29 (0, 0))) := ⟨by rw [← hq_]; exact (zM u)⟩; have p0 : Aside0 (m1.heap[q]? = some (.cells #[.slice A ((rd_T57 l a).f0).length B, .slice L ((rd_T57 l a).f1).length M] 57 (0, 0))) := ⟨by rw [← hq_]; exact (zM y)⟩; have q0 : Aside0 (Below w.heap.size w m1) := ⟨by rw [← hq_]; exact zB⟩; clear HL183_0 HL183_1 x z u y HB hq_; revert i0 j0 m0 n0 o0 p0 q0; intro HL183_0 HL183_1 x z u y HB))
     have i0 := zK (Kd.N_drew z.out)
     have j0 := zK (Kd.N_drew x.out)
     have m0 := zK (Kd.V_drew HL183_0.out)
     have n0 := zK (Kd.V_drew HL183_1.out)
     have o0 := zK (zd u.out)
     have p0 := zK (zd y.out)
     have q0 := zK (ze HB.out)
     revert i0 j0 m0 n0 o0 p0 q0
     clear z x HL183_0 HL183_1 u y HB
     intro z x HL183_0 HL183_1 u y HB
     refine start_ (n := 14) (S := fun w' => True) (ds := []) (bl 14 0) (by kernel_rfl) rfl (by kernel_rfl) trivial (fun hHeld => ?_); refine with_tabW impl_LmOk.tab9 impl_LmOk.bits9 (fun HT_ HW_ => ?_)
     generalize m1.drew = E6 at z x HL183_0 HL183_1 u y HB hHeld ⊢
     refine zP 0 57 (bl 14 1) HT_ ?_
     refine zP 1 58 (bl 14 3) HT_ ?_
     refine zP 2 59 (bl 14 7) HT_ ?_
     refine zO 3 60 (bl 14 15) HT_ ?_
     refine zO 4 61 (bl 14 31) HT_ ?_
     refine zO 5 62 (bl 14 63) HT_ ?_
     refine zO 6 63 (bl 14 127) HT_ ?_
     refine zO 7 64 (bl 14 255) HT_ ?_
     refine zO 8 65 (bl 14 511) HT_ ?_
     refine zO 9 66 (bl 14 1023) HT_ ?_
     refine zO 10 67 (bl 14 2047) HT_ ?_
     refine zO 11 68 (bl 14 4095) HT_ ?_
     refine zO 12 69 (bl 14 8191) HT_ ?_
     refine zP 13 70 (bl 14 16383) HT_ ?_
     refine done_ (done_of HT_.out (by kernel_rfl)) ?_
     try go_wp2
     go_roundg k1
     case measure => have := q2.out; omega
     case rel => exact ⟨(wrap64 (a + 1)), zR, H', ⟨by have := q2.out; omega⟩, ⟨Kd.N_mono (zlN z.out) (fun _ hk => hk.1)⟩, ⟨Kd.N_mono (zlN x.out) (fun _ hk => hk.1)⟩, ⟨zM u⟩, ⟨zB⟩⟩
   rw [if_pos a2] at H
   have o3 := z1 a2
   clear a2
   obtain ⟨ji31, hji31⟩ : ∃ j_ : Int, (wrap64 (a - 1)) = j_ := ⟨_, rfl⟩
   replace H : (if 0 ≤ (ji31) then (if (ji31) < (l.length : Int) then ((impl_byKey.f k1 ((rd_T57 l (ji31)).f0) ((rd_T57 l a).f0)).bind fun I1 => (if I1 = 0 then (some false) else (impl_LmOk.l0 k1 l l (l.length : Int) (wrap64 (a + 1)) y0 E0))) else (none)) else (none)) = some r := by first | (rw [hji31] at H; exact H) | (simp only [hji31] at H ⊢; exact H)
   (try rw [hji31] at C1)
   (try rw [hji31] at X1)
   (try rw [hji31] at f2)
   have hji31w : (IntKind.i64.wrap (a - 1)) = ji31 := (i64_w _).trans hji31
   by_cases E2 : 0 ≤ (ji31)
   rotate_left
   · rw [if_neg E2] at H
     exact absurd H (by simp)
   rw [if_pos E2] at H
   have g6 := z1 E2
   clear E2
   by_cases F2 : (ji31) < (l.length : Int)
   rotate_left
   · rw [if_neg F2] at H
     exact absurd H (by simp)
   rw [if_pos F2] at H
   have i6 := z1 F2
   clear F2
   replace H := z6 H
   obtain ⟨I1, a3, H⟩ := H
   have y3 := zK a3
   clear a3
   by_cases J1 : I1 = 0
   · rw [if_pos J1] at H
     have p3 := beq_iff_eq.mpr J1
     have q3 := bne_eq_false_iff_eq.mpr J1
     clear J1
     obtain rfl := z5 H
     have c0 : 0 ≤ (a : Int) := z3
     have d0 : a < (l.length : Int) := z3
     obtain ⟨O, A, B, L, M, L0, A0, B0, U, X, a0, b0⟩ := at_T57 (Kd.N_reads' x.out).2.2 a c0 d0
     cases L0
     obtain ⟨ce183, hce183, hMe183, hcc183⟩ := Kd.N_get x.out z57 a c0 (by first | exact d0 | exact z3 | (have e_ := (Kd.N_reads' x.out).1; omega))
     obtain ⟨ua183_0, uc183_0, ua183_1, uc183_1, rfl, ul183_0, ge183_0, ul183_1, ge183_1⟩ := k57_openF hMe183
     have D := hcc183 0 _ rfl
     rw [Nat.add_zero] at D
     replace D := z5 (D.symm.trans A0)
     injection D with hva_ hvn_ hvc_
     rw [hva_] at ge183_0
     rw [hvc_] at ul183_0
     have HL183_0 := zK (show Kd.V (Kd.int .i64) 3 _ w.heap.size _ _ ((rd_T57 l a).f0) from Kd.V_mk ul183_0 ge183_0)
     clear hva_ hvn_ hvc_ ge183_0 ul183_0
     have E := hcc183 1 _ rfl
     rw [add_field _ _ 1 (by omega)] at E
     replace E := z5 (E.symm.trans B0)
     injection E with hva_ hvn_ hvc_
     rw [hva_] at ge183_1
     rw [hvc_] at ul183_1
     have HL183_1 := zK (show Kd.V (Kd.int .i64) 3 _ w.heap.size _ _ ((rd_T57 l a).f1) from Kd.V_mk ul183_1 ge183_1)
     clear hva_ hvn_ hvc_ ge183_1 ul183_1
     clear hcc183 hce183
     have I := zK X
     have t0 := zK U
     clear X U
     have J := zK b0
     have x0 := zK a0
     clear b0 a0
     replace c0 := eq_true c0
     replace d0 := eq_true d0
     try go_wp2_with (first | ((with_reducible refine gd 5 rfl ?_); (try (refine gate_guard (by rfl) ?_; dsimp only)); refine zJ 5 #[.slice none 0 0, .slice none 0 0] 57 ?_; intro q hg E1 hbox hb; have i0 := zK (Kd.N_below (Kd.N_elderB (zkN z) q (Nat.le_of_eq hg.symm)) hb); have j0 := zK (Kd.N_below (Kd.N_elderB (zkN x) q (Nat.le_of_eq hg.symm)) hb); have m0 := zK (Kd.V_below (Kd.V_elderB (zkV HL183_0) q (Nat.le_of_eq hg.symm)) hb); have n0 := zK (Kd.V_below (Kd.V_elderB (zkV HL183_1) q (Nat.le_of_eq hg.symm)) hb); have o0 := z7 u hb; have p0 := zK (z4 (by repeat (first | (with_reducible exact I.out) | (with_reducible refine Kd.C_alloc ?_ _) | (with_reducible refine Kd.C_drewN ?_ _) | (with_reducible refine Kd.C_drew ?_) | exact I.out)) hb); have q0 := zK (z4 (by repeat (first | (with_reducible exact J.out) | (with_reducible refine Kd.C_alloc ?_ _) | (with_reducible refine Kd.C_drewN ?_ _) | (with_reducible refine Kd.C_drew ?_) | exact J.out)) hb); have O0 := z8 hb; have R0 := zK (hbox); have S0 := z9 hg; have G0 := z9 hg; have M0 := zHH hg u; have N0 := zGG hg u; revert i0 j0 m0 n0 o0 p0 q0 O0 R0 S0 G0 M0 N0; clear z x HL183_0 HL183_1 u I J HB; intro z x HL183_0 HL183_1 u I J HB y g1 i1 e0 g0; clear hb hbox hg; have j6 := g0.out; have l6 := e0.out; obtain ⟨b5, c5, d5, e5⟩ := zc2 y; obtain ⟨f5, g5, i5, j5⟩ := zc2 u) | (go_at_call 34; (with_reducible refine (impl_allWithin.calls k1 _ _ ((rd_T57 l a).f0) 0 (wrap64 (y0 - 1)) true _ ?side1 ?side2 C1.out).mono ?_); (case side1 => repeat (first | exact ((Kd.V_reads' (Kd.V_mono (zlV (Kd.V_mono HL183_0.out (fun k_ hk => (⟨hk, hk.2⟩ : _ ∧ k_ ≠ q)))) (fun _ h_ => h_.1))).2.2) | (with_reducible refine Kd.C_alloc ?_ _) | (with_reducible refine Kd.C_drewN ?_ _) | (with_reducible refine Kd.C_drew ?_))); (case side2 => exact t0.out); rintro e w' ⟨rfl, ⟨nd, rfl⟩⟩) | (go_at_call 34; (with_reducible refine (impl_allWithin.calls k1 _ _ ((rd_T57 l a).f1) 0 1000 true _ ?side1 ?side2 X1.out).mono ?_); (case side1 => repeat (first | exact ((Kd.V_reads' (Kd.V_mono (zlV (Kd.V_mono HL183_1.out (fun k_ hk => (⟨hk, hk.2⟩ : _ ∧ k_ ≠ q)))) (fun _ h_ => h_.1))).2.2) | (with_reducible refine Kd.C_alloc ?_ _) | (with_reducible refine Kd.C_drewN ?_ _) | (with_reducible refine Kd.C_drew ?_))); (case side2 => exact x0.out); rintro e w' ⟨rfl, ⟨nd, rfl⟩⟩) | (go_at_call 35; (with_reducible refine (impl_all.calls k1 _ _ ((rd_T57 l a).f1) 0 false _ ?side1 ?side2 f2.out).mono ?_); (case side1 => repeat (first | exact ((Kd.V_reads' (Kd.V_mono (zlV (Kd.V_mono HL183_1.out (fun k_ hk => (⟨hk, hk.2⟩ : _ ∧ k_ ≠ q)))) (fun _ h_ => h_.1))).2.2) | (with_reducible refine Kd.C_alloc ?_ _) | (with_reducible refine Kd.C_drewN ?_ _) | (with_reducible refine Kd.C_drew ?_))); (case side2 => exact x0.out); rintro e w' ⟨rfl, ⟨nd, rfl⟩⟩))
     have i0 : Aside0 (Kd.N k57 57 ((E1.setCell ⟨q, 0, none⟩ (.slice A ((rd_T57 l a).f0).length B)).setCell ⟨q, 1, none⟩ (.slice L ((rd_T57 l a).f1).length M)) w.heap.size (fun k_ => k_ ≠ T ∧ k_ ≠ q) (.slice (some O) l.length D0) l) := ⟨Kd.N_mono (zlN (Kd.N_mono z.out (fun k_ hk => (⟨hk, hk.2⟩ : _ ∧ k_ ≠ q)))) (fun _ hk => ⟨hk.1.1, hk.1.2⟩)⟩
     have j0 : Aside0 (Kd.N k57 57 ((E1.setCell ⟨q, 0, none⟩ (.slice A ((rd_T57 l a).f0).length B)).setCell ⟨q, 1, none⟩ (.slice L ((rd_T57 l a).f1).length M)) w.heap.size (fun k_ => k_ ≠ T ∧ k_ ≠ q) (.slice (some O) l.length D0) l) := ⟨Kd.N_mono (zlN (Kd.N_mono x.out (fun k_ hk => (⟨hk, hk.2⟩ : _ ∧ k_ ≠ q)))) (fun _ hk => ⟨hk.1.1, hk.1.2⟩)⟩
     have m0 : Aside0 (Kd.V (Kd.int .i64) 3 ((E1.setCell ⟨q, 0, none⟩ (.slice A ((rd_T57 l a).f0).length B)).setCell ⟨q, 1, none⟩ (.slice L ((rd_T57 l a).f1).length M)) w.heap.size (fun k_ => some k_ ≠ (.slice (some O) l.length D0 : Value).ownBlock ∧ k_ ≠ T ∧ k_ ≠ q) (.slice A ((rd_T57 l a).f0).length B) ((rd_T57 l a).f0)) := ⟨Kd.V_mono (zlV (Kd.V_mono HL183_0.out (fun k_ hk => (⟨hk, hk.2⟩ : _ ∧ k_ ≠ q)))) (fun _ hk => ⟨hk.1.1.2, ⟨hk.1.1.1, hk.1.2⟩⟩)⟩
     have n0 : Aside0 (Kd.V (Kd.int .i64) 3 ((E1.setCell ⟨q, 0, none⟩ (.slice A ((rd_T57 l a).f0).length B)).setCell ⟨q, 1, none⟩ (.slice L ((rd_T57 l a).f1).length M)) w.heap.size (fun k_ => some k_ ≠ (.slice (some O) l.length D0 : Value).ownBlock ∧ k_ ≠ T ∧ k_ ≠ q) (.slice L ((rd_T57 l a).f1).length M) ((rd_T57 l a).f1)) := ⟨Kd.V_mono (zlV (Kd.V_mono HL183_1.out (fun k_ hk => (⟨hk, hk.2⟩ : _ ∧ k_ ≠ q)))) (fun _ hk => ⟨hk.1.1.2, ⟨hk.1.1.1, hk.1.2⟩⟩)⟩
     have o0 : Aside0 (((E1.setCell ⟨q, 0, none⟩ (.slice A ((rd_T57 l a).f0).length B)).setCell ⟨q, 1, none⟩ (.slice L ((rd_T57 l a).f1).length M)).heap[T]? = some (.cells #[.int .i64 y0, .slice V0 E0.length X0] 29 (0, 0))) := ⟨zV u⟩
     have p0 : Aside0 (((E1.setCell ⟨q, 0, none⟩ (.slice A ((rd_T57 l a).f0).length B)).setCell ⟨q, 1, none⟩ (.slice L ((rd_T57 l a).f1).length M)).heap[q]? = some (.cells #[.slice A ((rd_T57 l a).f0).length B, .slice L ((rd_T57 l a).f1).length M] 57 (0, 0))) := ⟨zW y⟩
     have q0 : Aside0 (Below w.heap.size w ((E1.setCell ⟨q, 0, none⟩ (.slice A ((rd_T57 l a).f0).length B)).setCell ⟨q, 1, none⟩ (.slice L ((rd_T57 l a).f1).length M))) := ⟨zB⟩
     (try clear z)
     (try clear x)
     (try clear HL183_0)
     (try clear HL183_1)
     (try clear u)
     (try clear y)
     (try clear HB)
     generalize ((E1.setCell ⟨q, 0, none⟩ (.slice A ((rd_T57 l a).f0).length B)).setCell ⟨q, 1, none⟩ (.slice L ((rd_T57 l a).f1).length M)) = n1 at i0 j0 m0 n0 o0 p0 q0 ⊢
     revert i0 j0 m0 n0 o0 p0 q0
     intro z x HL183_0 HL183_1 u y HB
     (try (rw [drewN_self n1]; generalize hq_ : World.drewN n1 _ = n1; have i0 : Aside0 (Kd.V (Kd.int .i64) 3 n1 w.heap.size (fun k_ => some k_ ≠ (.slice (some O) l.length D0 : Value).ownBlock ∧ k_ ≠ T ∧ k_ ≠ q) (.slice A ((rd_T57 l a).f0).length B) ((rd_T57 l a).f0)) := ⟨by rw [← hq_]; exact (zkV HL183_0)⟩; have j0 : Aside0 (Kd.V (Kd.int .i64) 3 n1 w.heap.size (fun k_ => some k_ ≠ (.slice (some O) l.length D0 : Value).ownBlock ∧ k_ ≠ T ∧ k_ ≠ q) (.slice L ((rd_T57 l a).f1).length M) ((rd_T57 l a).f1)) := ⟨by rw [← hq_]; exact (zkV HL183_1)⟩; have m0 : Aside0 (Kd.N k57 57 n1 w.heap.size (fun k_ => k_ ≠ T ∧ k_ ≠ q) (.slice (some O) l.length D0) l) := ⟨by rw [← hq_]; exact (zkN x)⟩; have n0 : Aside0 (Kd.N k57 57 n1 w.heap.size (fun k_ => k_ ≠ T ∧ k_ ≠ q) (.slice (some O) l.length D0) l) := ⟨by rw [← hq_]; exact (zkN z)⟩; have o0 : Aside0 (n1.heap[T]? = some (.cells #[.int .i64 y0, .slice V0 E0.length X0] 29 (0, 0))) := ⟨by rw [← hq_]; exact (zM u)⟩; have p0 : Aside0 (n1.heap[q]? = some (.cells #[.slice A ((rd_T57 l a).f0).length B, .slice L ((rd_T57 l a).f1).length M] 57 (0, 0))) := ⟨by rw [← hq_]; exact (zM y)⟩; have q0 : Aside0 (Below w.heap.size w n1) := ⟨by rw [← hq_]; exact zB⟩; clear HL183_0 HL183_1 x z u y HB hq_; revert i0 j0 m0 n0 o0 p0 q0; intro HL183_0 HL183_1 x z u y HB))
     have i0 := zK (Kd.N_drew z.out)
     have j0 := zK (Kd.N_drew x.out)
     have m0 := zK (Kd.V_drew HL183_0.out)
     have n0 := zK (Kd.V_drew HL183_1.out)
     have o0 := zK (zd u.out)
     have p0 := zK (zd y.out)
     have q0 := zK (ze HB.out)
     revert i0 j0 m0 n0 o0 p0 q0
     clear z x HL183_0 HL183_1 u y HB
     intro z x HL183_0 HL183_1 u y HB
     have j1 : 0 ≤ ((ji31) : Int) := z3
     have l1 : (ji31) < (l.length : Int) := z3
     obtain ⟨e2, o1, p1, L1, M1, j2, T0, U0, a1, b1, d1, e1⟩ := at_T57 (Kd.N_reads' z.out).2.2 (ji31) j1 l1
     obtain rfl : O = e2 := (by injection j2)
     obtain ⟨ce188, hce188, hMe188, hcc188⟩ := Kd.N_get z.out z57 (ji31) j1 (by first | exact l1 | exact z3 | (have e_ := (Kd.N_reads' z.out).1; omega))
     obtain ⟨ua188_0, uc188_0, ua188_1, uc188_1, rfl, ul188_0, ge188_0, ul188_1, ge188_1⟩ := k57_openF hMe188
     have I0 := hcc188 0 _ rfl
     rw [Nat.add_zero] at I0
     replace I0 := z5 (I0.symm.trans T0)
     injection I0 with hva_ hvn_ hvc_
     rw [hva_] at ge188_0
     rw [hvc_] at ul188_0
     have HL188_0 := zK (show Kd.V (Kd.int .i64) 3 _ w.heap.size _ _ ((rd_T57 l (ji31)).f0) from Kd.V_mk ul188_0 ge188_0)
     clear hva_ hvn_ hvc_ ge188_0 ul188_0
     have J0 := hcc188 1 _ rfl
     rw [add_field _ _ 1 (by omega)] at J0
     replace J0 := z5 (J0.symm.trans U0)
     injection J0 with hva_ hvn_ hvc_
     rw [hva_] at ge188_1
     rw [hvc_] at ul188_1
     have HL188_1 := zK (show Kd.V (Kd.int .i64) 3 _ w.heap.size _ _ ((rd_T57 l (ji31)).f1) from Kd.V_mk ul188_1 ge188_1)
     clear hva_ hvn_ hvc_ ge188_1 ul188_1
     clear hcc188 hce188
     have C0 := zK b1
     have B1 := zK a1
     clear b1 a1
     have F0 := zK e1
     have I2 := zK d1
     clear e1 d1
     replace j1 := eq_true j1
     replace l1 := eq_true l1
     refine start_ (n := 14) (S := fun w' => w'.cell? ⟨q, 0, none⟩ = some (.slice A ((rd_T57 l a).f0).length B) ∧ w'.cell? ⟨q, 1, none⟩ = some (.slice L ((rd_T57 l a).f1).length M) ∧ w'.cell? (O.add (((ji31)).toNat * 2)) = some (.slice o1 ((rd_T57 l (ji31)).f0).length p1) ∧ w'.cell? ⟨(O.add (((ji31)).toNat * 2)).block, (O.add (((ji31)).toNat * 2)).off + 1, none⟩ = some (.slice L1 ((rd_T57 l (ji31)).f1).length M1)) (ds := []) (bl 14 0) (by kernel_rfl) rfl (by kernel_rfl) ⟨zy y 0, zy y 1, T0, U0⟩ (fun hHeld => ?_); refine with_tabW impl_LmOk.tab9 impl_LmOk.bits9 (fun HT_ HW_ => ?_)
     generalize n1.drew = F6 at z x HL183_0 HL183_1 u y HB HL188_0 HL188_1 C0 F0 T0 U0 hHeld ⊢
     refine zP 0 57 (bl 14 1) HT_ ?_
     refine zP 1 58 (bl 14 3) HT_ ?_
     refine zP 2 59 (bl 14 7) HT_ ?_
     refine zP 3 60 (bl 14 15) HT_ ?_
     refine zP 4 61 (bl 14 31) HT_ ?_
     refine zP 5 62 (bl 14 63) HT_ ?_
     refine zP 6 63 (bl 14 127) HT_ ?_
     refine zP 7 64 (bl 14 255) HT_ ?_
     refine zP 9 66 (bl 14 767) HT_ ?_
     refine zT 8 65 (bl 14 1023) rfl rfl HT_ HW_ hHeld (by rintro w' ⟨s0, s1, s2, s3⟩; go_simp; with_reducible rfl) ?_
     refine zT 10 67 (bl 14 2047) rfl rfl HT_ HW_ hHeld (by rintro w' ⟨s0, s1, s2, s3⟩; go_simp; with_reducible rfl) ?_
     refine one_ (i := 11) (N := some 68) (bl 14 4095) rfl rfl (one_of HT_.out (by kernel_rfl)) (by decide) (fun K hK => ?_)
     refine goes_ Try.func36 (by kernel_rfl) rfl #[.slice o1 ((rd_T57 l (ji31)).f0).length p1, .slice A ((rd_T57 l a).f0).length B] (by rfl) rfl rfl (by (try simp only [List.map_toArray, List.map_cons, List.map_nil]); first | done | (simp only [hji31]; rfl) | rfl | (simp only [List.length_drop, List.length_take]; rfl)) ?_
     with_reducible refine (impl_byKey.calls k1 _ _ ((rd_T57 l (ji31)).f0) _ _ ((rd_T57 l a).f0) I1 _ ?side1 ?side2 ?side3 ?side4 y3.out).mono ?_
     (case side1 => repeat (first | exact (by repeat (first | (with_reducible exact C0.out) | (with_reducible refine Kd.C_alloc ?_ _) | (with_reducible refine Kd.C_drewN ?_ _) | (with_reducible refine Kd.C_drew ?_) | exact C0.out)) | (with_reducible refine Kd.C_alloc ?_ _) | (with_reducible refine Kd.C_drewN ?_ _) | (with_reducible refine Kd.C_drew ?_)))
     (case side2 => exact B1.out)
     (case side3 => repeat (first | exact ((Kd.V_reads' (zkV HL183_0)).2.2) | (with_reducible refine Kd.C_alloc ?_ _) | (with_reducible refine Kd.C_drewN ?_ _) | (with_reducible refine Kd.C_drew ?_)))
     (case side4 => exact t0.out)
     rintro e G6 ⟨rfl, hb⟩
     have l2 := (hb.cell (World.block_lt_of_cell? _ _ (hHeld.2.2.1))).trans (hHeld.2.2.1)
     have m2 := (hb.cell (World.block_lt_of_cell? _ _ (hHeld.2.2.2))).trans (hHeld.2.2.2)
     refine ⟨_, rfl, ?_⟩
     have i0 := zK (Kd.N_below (zkN z) hb)
     have j0 := zK (Kd.N_below (zkN x) hb)
     have m0 := zK (Kd.V_below (zkV HL183_0) hb)
     have n0 := zK (Kd.V_below (zkV HL183_1) hb)
     have o0 := zK (Kd.V_below (zkV HL188_0) hb)
     have p0 := zK (Kd.V_below (zkV HL188_1) hb)
     have q0 := z7 u hb
     have O0 := z7 y hb
     have R0 := zK (z4 (by repeat (first | (with_reducible exact C0.out) | (with_reducible refine Kd.C_alloc ?_ _) | (with_reducible refine Kd.C_drewN ?_ _) | (with_reducible refine Kd.C_drew ?_) | exact C0.out)) hb)
     have S0 := zK (z4 (by repeat (first | (with_reducible exact F0.out) | (with_reducible refine Kd.C_alloc ?_ _) | (with_reducible refine Kd.C_drewN ?_ _) | (with_reducible refine Kd.C_drew ?_) | exact F0.out)) hb)
     have G0 := z8 hb
     revert i0 j0 m0 n0 o0 p0 q0 O0 R0 S0 G0
     clear z x HL183_0 HL183_1 HL188_0 HL188_1 u y C0 F0 HB
     intro z x HL183_0 HL183_1 HL188_0 HL188_1 u y C0 F0 HB
     (try clear hb)
     (try clear hb2)
     (try clear hk)
     (try clear hi)
     refine hK.out _ _ ⟨zy y 0, zy y 1, l2, m2⟩ (fun hHeld => ?_)
     clear hK K
     refine zU 68 ?_
     refine zP 12 69 (bl 14 8191) HT_ ?_
     refine zP 13 70 (bl 14 16383) HT_ ?_
     refine done_ (done_of HT_.out (by kernel_rfl)) ?_
     try go_wp2
     go_ret
     exact ⟨by first | rfl | (simp [errW_none, errW_some] <;> rfl) | (simp only [← hji31]; first | rfl | (simp [errW_none, errW_some] <;> rfl)) | (simp [*, errW_none, errW_some] <;> rfl), zB⟩
   rw [if_neg J1] at H
   have p3 := beq_eq_false_iff_ne.mpr J1
   have q3 := bne_iff_ne.mpr J1
   have H' := zK H
   clear H
   have c0 : 0 ≤ (a : Int) := z3
   have d0 : a < (l.length : Int) := z3
   obtain ⟨O, A, B, L, M, L0, A0, B0, U, X, a0, b0⟩ := at_T57 (Kd.N_reads' x.out).2.2 a c0 d0
   cases L0
   obtain ⟨ce183, hce183, hMe183, hcc183⟩ := Kd.N_get x.out z57 a c0 (by first | exact d0 | exact z3 | (have e_ := (Kd.N_reads' x.out).1; omega))
   obtain ⟨ua183_0, uc183_0, ua183_1, uc183_1, rfl, ul183_0, ge183_0, ul183_1, ge183_1⟩ := k57_openF hMe183
   have D := hcc183 0 _ rfl
   rw [Nat.add_zero] at D
   replace D := z5 (D.symm.trans A0)
   injection D with hva_ hvn_ hvc_
   rw [hva_] at ge183_0
   rw [hvc_] at ul183_0
   have HL183_0 := zK (show Kd.V (Kd.int .i64) 3 _ w.heap.size _ _ ((rd_T57 l a).f0) from Kd.V_mk ul183_0 ge183_0)
   clear hva_ hvn_ hvc_ ge183_0 ul183_0
   have E := hcc183 1 _ rfl
   rw [add_field _ _ 1 (by omega)] at E
   replace E := z5 (E.symm.trans B0)
   injection E with hva_ hvn_ hvc_
   rw [hva_] at ge183_1
   rw [hvc_] at ul183_1
   have HL183_1 := zK (show Kd.V (Kd.int .i64) 3 _ w.heap.size _ _ ((rd_T57 l a).f1) from Kd.V_mk ul183_1 ge183_1)
   clear hva_ hvn_ hvc_ ge183_1 ul183_1
   clear hcc183 hce183
   have I := zK X
   have t0 := zK U
   clear X U
   have J := zK b0
   have x0 := zK a0
   clear b0 a0
   replace c0 := eq_true c0
   replace d0 := eq_true d0
   try go_wp2_with (first | ((with_reducible refine gd 5 rfl ?_); (try (refine gate_guard (by rfl) ?_; dsimp only)); refine zJ 5 #[.slice none 0 0, .slice none 0 0] 57 ?_; intro q hg F1 hbox hb; have i0 := zK (Kd.N_below (Kd.N_elderB (zkN z) q (Nat.le_of_eq hg.symm)) hb); have j0 := zK (Kd.N_below (Kd.N_elderB (zkN x) q (Nat.le_of_eq hg.symm)) hb); have m0 := zK (Kd.V_below (Kd.V_elderB (zkV HL183_0) q (Nat.le_of_eq hg.symm)) hb); have n0 := zK (Kd.V_below (Kd.V_elderB (zkV HL183_1) q (Nat.le_of_eq hg.symm)) hb); have o0 := z7 u hb; have p0 := zK (z4 (by repeat (first | (with_reducible exact I.out) | (with_reducible refine Kd.C_alloc ?_ _) | (with_reducible refine Kd.C_drewN ?_ _) | (with_reducible refine Kd.C_drew ?_) | exact I.out)) hb); have q0 := zK (z4 (by repeat (first | (with_reducible exact J.out) | (with_reducible refine Kd.C_alloc ?_ _) | (with_reducible refine Kd.C_drewN ?_ _) | (with_reducible refine Kd.C_drew ?_) | exact J.out)) hb); have O0 := z8 hb; have R0 := zK (hbox); have S0 := z9 hg; have G0 := z9 hg; have M0 := zHH hg u; have N0 := zGG hg u; revert i0 j0 m0 n0 o0 p0 q0 O0 R0 S0 G0 M0 N0; clear z x HL183_0 HL183_1 u I J HB; intro z x HL183_0 HL183_1 u I J HB y g1 i1 e0 g0; clear hb hbox hg; have m6 := g0.out; have n6 := e0.out; obtain ⟨l5, m5, n5, o5⟩ := zc2 y; obtain ⟨p5, q5, s5, t5⟩ := zc2 u) | (go_at_call 34; (with_reducible refine (impl_allWithin.calls k1 _ _ ((rd_T57 l a).f0) 0 (wrap64 (y0 - 1)) true _ ?side1 ?side2 C1.out).mono ?_); (case side1 => repeat (first | exact ((Kd.V_reads' (Kd.V_mono (zlV (Kd.V_mono HL183_0.out (fun k_ hk => (⟨hk, hk.2⟩ : _ ∧ k_ ≠ q)))) (fun _ h_ => h_.1))).2.2) | (with_reducible refine Kd.C_alloc ?_ _) | (with_reducible refine Kd.C_drewN ?_ _) | (with_reducible refine Kd.C_drew ?_))); (case side2 => exact t0.out); rintro e w' ⟨rfl, ⟨nd, rfl⟩⟩) | (go_at_call 34; (with_reducible refine (impl_allWithin.calls k1 _ _ ((rd_T57 l a).f1) 0 1000 true _ ?side1 ?side2 X1.out).mono ?_); (case side1 => repeat (first | exact ((Kd.V_reads' (Kd.V_mono (zlV (Kd.V_mono HL183_1.out (fun k_ hk => (⟨hk, hk.2⟩ : _ ∧ k_ ≠ q)))) (fun _ h_ => h_.1))).2.2) | (with_reducible refine Kd.C_alloc ?_ _) | (with_reducible refine Kd.C_drewN ?_ _) | (with_reducible refine Kd.C_drew ?_))); (case side2 => exact x0.out); rintro e w' ⟨rfl, ⟨nd, rfl⟩⟩) | (go_at_call 35; (with_reducible refine (impl_all.calls k1 _ _ ((rd_T57 l a).f1) 0 false _ ?side1 ?side2 f2.out).mono ?_); (case side1 => repeat (first | exact ((Kd.V_reads' (Kd.V_mono (zlV (Kd.V_mono HL183_1.out (fun k_ hk => (⟨hk, hk.2⟩ : _ ∧ k_ ≠ q)))) (fun _ h_ => h_.1))).2.2) | (with_reducible refine Kd.C_alloc ?_ _) | (with_reducible refine Kd.C_drewN ?_ _) | (with_reducible refine Kd.C_drew ?_))); (case side2 => exact x0.out); rintro e w' ⟨rfl, ⟨nd, rfl⟩⟩))
   have i0 : Aside0 (Kd.N k57 57 ((F1.setCell ⟨q, 0, none⟩ (.slice A ((rd_T57 l a).f0).length B)).setCell ⟨q, 1, none⟩ (.slice L ((rd_T57 l a).f1).length M)) w.heap.size (fun k_ => k_ ≠ T ∧ k_ ≠ q) (.slice (some O) l.length D0) l) := ⟨Kd.N_mono (zlN (Kd.N_mono z.out (fun k_ hk => (⟨hk, hk.2⟩ : _ ∧ k_ ≠ q)))) (fun _ hk => ⟨hk.1.1, hk.1.2⟩)⟩
   have j0 : Aside0 (Kd.N k57 57 ((F1.setCell ⟨q, 0, none⟩ (.slice A ((rd_T57 l a).f0).length B)).setCell ⟨q, 1, none⟩ (.slice L ((rd_T57 l a).f1).length M)) w.heap.size (fun k_ => k_ ≠ T ∧ k_ ≠ q) (.slice (some O) l.length D0) l) := ⟨Kd.N_mono (zlN (Kd.N_mono x.out (fun k_ hk => (⟨hk, hk.2⟩ : _ ∧ k_ ≠ q)))) (fun _ hk => ⟨hk.1.1, hk.1.2⟩)⟩
   have m0 : Aside0 (Kd.V (Kd.int .i64) 3 ((F1.setCell ⟨q, 0, none⟩ (.slice A ((rd_T57 l a).f0).length B)).setCell ⟨q, 1, none⟩ (.slice L ((rd_T57 l a).f1).length M)) w.heap.size (fun k_ => some k_ ≠ (.slice (some O) l.length D0 : Value).ownBlock ∧ k_ ≠ T ∧ k_ ≠ q) (.slice A ((rd_T57 l a).f0).length B) ((rd_T57 l a).f0)) := ⟨Kd.V_mono (zlV (Kd.V_mono HL183_0.out (fun k_ hk => (⟨hk, hk.2⟩ : _ ∧ k_ ≠ q)))) (fun _ hk => ⟨hk.1.1.2, ⟨hk.1.1.1, hk.1.2⟩⟩)⟩
   have n0 : Aside0 (Kd.V (Kd.int .i64) 3 ((F1.setCell ⟨q, 0, none⟩ (.slice A ((rd_T57 l a).f0).length B)).setCell ⟨q, 1, none⟩ (.slice L ((rd_T57 l a).f1).length M)) w.heap.size (fun k_ => some k_ ≠ (.slice (some O) l.length D0 : Value).ownBlock ∧ k_ ≠ T ∧ k_ ≠ q) (.slice L ((rd_T57 l a).f1).length M) ((rd_T57 l a).f1)) := ⟨Kd.V_mono (zlV (Kd.V_mono HL183_1.out (fun k_ hk => (⟨hk, hk.2⟩ : _ ∧ k_ ≠ q)))) (fun _ hk => ⟨hk.1.1.2, ⟨hk.1.1.1, hk.1.2⟩⟩)⟩
   have o0 : Aside0 (((F1.setCell ⟨q, 0, none⟩ (.slice A ((rd_T57 l a).f0).length B)).setCell ⟨q, 1, none⟩ (.slice L ((rd_T57 l a).f1).length M)).heap[T]? = some (.cells #[.int .i64 y0, .slice V0 E0.length X0] 29 (0, 0))) := ⟨zV u⟩
   have p0 : Aside0 (((F1.setCell ⟨q, 0, none⟩ (.slice A ((rd_T57 l a).f0).length B)).setCell ⟨q, 1, none⟩ (.slice L ((rd_T57 l a).f1).length M)).heap[q]? = some (.cells #[.slice A ((rd_T57 l a).f0).length B, .slice L ((rd_T57 l a).f1).length M] 57 (0, 0))) := ⟨zW y⟩
   have q0 : Aside0 (Below w.heap.size w ((F1.setCell ⟨q, 0, none⟩ (.slice A ((rd_T57 l a).f0).length B)).setCell ⟨q, 1, none⟩ (.slice L ((rd_T57 l a).f1).length M))) := ⟨zB⟩
   (try clear z)
   (try clear x)
   (try clear HL183_0)
   (try clear HL183_1)
   (try clear u)
   (try clear y)
   (try clear HB)
   generalize ((F1.setCell ⟨q, 0, none⟩ (.slice A ((rd_T57 l a).f0).length B)).setCell ⟨q, 1, none⟩ (.slice L ((rd_T57 l a).f1).length M)) = q1 at i0 j0 m0 n0 o0 p0 q0 ⊢
   revert i0 j0 m0 n0 o0 p0 q0
   intro z x HL183_0 HL183_1 u y HB
   (try (rw [drewN_self q1]; generalize hq_ : World.drewN q1 _ = q1; have i0 : Aside0 (Kd.V (Kd.int .i64) 3 q1 w.heap.size (fun k_ => some k_ ≠ (.slice (some O) l.length D0 : Value).ownBlock ∧ k_ ≠ T ∧ k_ ≠ q) (.slice A ((rd_T57 l a).f0).length B) ((rd_T57 l a).f0)) := ⟨by rw [← hq_]; exact (zkV HL183_0)⟩; have j0 : Aside0 (Kd.V (Kd.int .i64) 3 q1 w.heap.size (fun k_ => some k_ ≠ (.slice (some O) l.length D0 : Value).ownBlock ∧ k_ ≠ T ∧ k_ ≠ q) (.slice L ((rd_T57 l a).f1).length M) ((rd_T57 l a).f1)) := ⟨by rw [← hq_]; exact (zkV HL183_1)⟩; have m0 : Aside0 (Kd.N k57 57 q1 w.heap.size (fun k_ => k_ ≠ T ∧ k_ ≠ q) (.slice (some O) l.length D0) l) := ⟨by rw [← hq_]; exact (zkN x)⟩; have n0 : Aside0 (Kd.N k57 57 q1 w.heap.size (fun k_ => k_ ≠ T ∧ k_ ≠ q) (.slice (some O) l.length D0) l) := ⟨by rw [← hq_]; exact (zkN z)⟩; have o0 : Aside0 (q1.heap[T]? = some (.cells #[.int .i64 y0, .slice V0 E0.length X0] 29 (0, 0))) := ⟨by rw [← hq_]; exact (zM u)⟩; have p0 : Aside0 (q1.heap[q]? = some (.cells #[.slice A ((rd_T57 l a).f0).length B, .slice L ((rd_T57 l a).f1).length M] 57 (0, 0))) := ⟨by rw [← hq_]; exact (zM y)⟩; have q0 : Aside0 (Below w.heap.size w q1) := ⟨by rw [← hq_]; exact zB⟩; clear HL183_0 HL183_1 x z u y HB hq_; revert i0 j0 m0 n0 o0 p0 q0; intro HL183_0 HL183_1 x z u y HB))
   have i0 := zK (Kd.N_drew z.out)
   have j0 := zK (Kd.N_drew x.out)
   have m0 := zK (Kd.V_drew HL183_0.out)
   have n0 := zK (Kd.V_drew HL183_1.out)
   have o0 := zK (zd u.out)
   have p0 := zK (zd y.out)
   have q0 := zK (ze HB.out)
   revert i0 j0 m0 n0 o0 p0 q0
   clear z x HL183_0 HL183_1 u y HB
   intro z x HL183_0 HL183_1 u y HB
   have j1 : 0 ≤ ((ji31) : Int) := z3
   have l1 : (ji31) < (l.length : Int) := z3
   obtain ⟨e2, o1, p1, L1, M1, j2, T0, U0, a1, b1, d1, e1⟩ := at_T57 (Kd.N_reads' z.out).2.2 (ji31) j1 l1
   obtain rfl : O = e2 := (by injection j2)
   obtain ⟨ce188, hce188, hMe188, hcc188⟩ := Kd.N_get z.out z57 (ji31) j1 (by first | exact l1 | exact z3 | (have e_ := (Kd.N_reads' z.out).1; omega))
   obtain ⟨ua188_0, uc188_0, ua188_1, uc188_1, rfl, ul188_0, ge188_0, ul188_1, ge188_1⟩ := k57_openF hMe188
   have I0 := hcc188 0 _ rfl
   rw [Nat.add_zero] at I0
   replace I0 := z5 (I0.symm.trans T0)
   injection I0 with hva_ hvn_ hvc_
   rw [hva_] at ge188_0
   rw [hvc_] at ul188_0
   have HL188_0 := zK (show Kd.V (Kd.int .i64) 3 _ w.heap.size _ _ ((rd_T57 l (ji31)).f0) from Kd.V_mk ul188_0 ge188_0)
   clear hva_ hvn_ hvc_ ge188_0 ul188_0
   have J0 := hcc188 1 _ rfl
   rw [add_field _ _ 1 (by omega)] at J0
   replace J0 := z5 (J0.symm.trans U0)
   injection J0 with hva_ hvn_ hvc_
   rw [hva_] at ge188_1
   rw [hvc_] at ul188_1
   have HL188_1 := zK (show Kd.V (Kd.int .i64) 3 _ w.heap.size _ _ ((rd_T57 l (ji31)).f1) from Kd.V_mk ul188_1 ge188_1)
   clear hva_ hvn_ hvc_ ge188_1 ul188_1
   clear hcc188 hce188
   have C0 := zK b1
   have B1 := zK a1
   clear b1 a1
   have F0 := zK e1
   have I2 := zK d1
   clear e1 d1
   replace j1 := eq_true j1
   replace l1 := eq_true l1
   refine start_ (n := 14) (S := fun w' => w'.cell? ⟨q, 0, none⟩ = some (.slice A ((rd_T57 l a).f0).length B) ∧ w'.cell? ⟨q, 1, none⟩ = some (.slice L ((rd_T57 l a).f1).length M) ∧ w'.cell? (O.add (((ji31)).toNat * 2)) = some (.slice o1 ((rd_T57 l (ji31)).f0).length p1) ∧ w'.cell? ⟨(O.add (((ji31)).toNat * 2)).block, (O.add (((ji31)).toNat * 2)).off + 1, none⟩ = some (.slice L1 ((rd_T57 l (ji31)).f1).length M1)) (ds := []) (bl 14 0) (by kernel_rfl) rfl (by kernel_rfl) ⟨zy y 0, zy y 1, T0, U0⟩ (fun hHeld => ?_); refine with_tabW impl_LmOk.tab9 impl_LmOk.bits9 (fun HT_ HW_ => ?_)
   generalize q1.drew = I6 at z x HL183_0 HL183_1 u y HB HL188_0 HL188_1 C0 F0 T0 U0 hHeld ⊢
   refine zP 0 57 (bl 14 1) HT_ ?_
   refine zP 1 58 (bl 14 3) HT_ ?_
   refine zP 2 59 (bl 14 7) HT_ ?_
   refine zP 3 60 (bl 14 15) HT_ ?_
   refine zP 4 61 (bl 14 31) HT_ ?_
   refine zP 5 62 (bl 14 63) HT_ ?_
   refine zP 6 63 (bl 14 127) HT_ ?_
   refine zP 7 64 (bl 14 255) HT_ ?_
   refine zP 9 66 (bl 14 767) HT_ ?_
   refine zT 8 65 (bl 14 1023) rfl rfl HT_ HW_ hHeld (by rintro w' ⟨s0, s1, s2, s3⟩; go_simp; with_reducible rfl) ?_
   refine zT 10 67 (bl 14 2047) rfl rfl HT_ HW_ hHeld (by rintro w' ⟨s0, s1, s2, s3⟩; go_simp; with_reducible rfl) ?_
   refine one_ (i := 11) (N := some 68) (bl 14 4095) rfl rfl (one_of HT_.out (by kernel_rfl)) (by decide) (fun K hK => ?_)
   refine goes_ Try.func36 (by kernel_rfl) rfl #[.slice o1 ((rd_T57 l (ji31)).f0).length p1, .slice A ((rd_T57 l a).f0).length B] (by rfl) rfl rfl (by (try simp only [List.map_toArray, List.map_cons, List.map_nil]); first | done | (simp only [hji31]; rfl) | rfl | (simp only [List.length_drop, List.length_take]; rfl)) ?_
   with_reducible refine (impl_byKey.calls k1 _ _ ((rd_T57 l (ji31)).f0) _ _ ((rd_T57 l a).f0) I1 _ ?side1 ?side2 ?side3 ?side4 y3.out).mono ?_
   (case side1 => repeat (first | exact (by repeat (first | (with_reducible exact C0.out) | (with_reducible refine Kd.C_alloc ?_ _) | (with_reducible refine Kd.C_drewN ?_ _) | (with_reducible refine Kd.C_drew ?_) | exact C0.out)) | (with_reducible refine Kd.C_alloc ?_ _) | (with_reducible refine Kd.C_drewN ?_ _) | (with_reducible refine Kd.C_drew ?_)))
   (case side2 => exact B1.out)
   (case side3 => repeat (first | exact ((Kd.V_reads' (zkV HL183_0)).2.2) | (with_reducible refine Kd.C_alloc ?_ _) | (with_reducible refine Kd.C_drewN ?_ _) | (with_reducible refine Kd.C_drew ?_)))
   (case side4 => exact t0.out)
   rintro e J6 ⟨rfl, hb⟩
   have l2 := (hb.cell (World.block_lt_of_cell? _ _ (hHeld.2.2.1))).trans (hHeld.2.2.1)
   have m2 := (hb.cell (World.block_lt_of_cell? _ _ (hHeld.2.2.2))).trans (hHeld.2.2.2)
   refine ⟨_, rfl, ?_⟩
   have i0 := zK (Kd.N_below (zkN z) hb)
   have j0 := zK (Kd.N_below (zkN x) hb)
   have m0 := zK (Kd.V_below (zkV HL183_0) hb)
   have n0 := zK (Kd.V_below (zkV HL183_1) hb)
   have o0 := zK (Kd.V_below (zkV HL188_0) hb)
   have p0 := zK (Kd.V_below (zkV HL188_1) hb)
   have q0 := z7 u hb
   have O0 := z7 y hb
   have R0 := zK (z4 (by repeat (first | (with_reducible exact C0.out) | (with_reducible refine Kd.C_alloc ?_ _) | (with_reducible refine Kd.C_drewN ?_ _) | (with_reducible refine Kd.C_drew ?_) | exact C0.out)) hb)
   have S0 := zK (z4 (by repeat (first | (with_reducible exact F0.out) | (with_reducible refine Kd.C_alloc ?_ _) | (with_reducible refine Kd.C_drewN ?_ _) | (with_reducible refine Kd.C_drew ?_) | exact F0.out)) hb)
   have G0 := z8 hb
   revert i0 j0 m0 n0 o0 p0 q0 O0 R0 S0 G0
   clear z x HL183_0 HL183_1 HL188_0 HL188_1 u y C0 F0 HB
   intro z x HL183_0 HL183_1 HL188_0 HL188_1 u y C0 F0 HB
   (try clear hb)
   (try clear hb2)
   (try clear hk)
   (try clear hi)
   refine hK.out _ _ ⟨zy y 0, zy y 1, l2, m2⟩ (fun hHeld => ?_)
   clear hK K
   refine zU 68 ?_
   refine zP 12 69 (bl 14 8191) HT_ ?_
   refine zP 13 70 (bl 14 16383) HT_ ?_
   refine done_ (done_of HT_.out (by kernel_rfl)) ?_
   try go_wp2
   go_roundg k1
   case measure => have := q2.out; omega
   case rel => exact ⟨(wrap64 (a + 1)), zR, H', ⟨by have := q2.out; omega⟩, ⟨Kd.N_mono (zlN z.out) (fun _ hk => hk.1)⟩, ⟨Kd.N_mono (zlN x.out) (fun _ hk => hk.1)⟩, ⟨zM u⟩, ⟨zB⟩⟩
 all_goals go_ret
 all_goals exact ⟨zE, zB⟩
end Go.Proofs.Ytdlhmhgpafegpaa.PFnExactLmOk
