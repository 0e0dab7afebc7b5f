-- Printed out of the translation by this session's own turned copy of a printer; Lean checks it.
import Derived.Test.YtdlhmhgpafegpaaPFnExactWeightsx0
import Derived.Test.YtdlhmhgpafegpaaPFnExactWeightsx3
namespace Go.Proofs.Ytdlhmhgpafegpaa.PFnExactWeights
open Go.RowKit Go.Proofs.YtdlhmhgpafegpaaW.PrintWords Go.Proofs.YtdlhmhgpafegpaaW.PrintLast Go.Proofs.YtdlhmhgpafegpaaW.PrintMore
attribute [local go_sem] max2_int min2_int max_two min_two max_three min_three max_four min_four
set_option linter.unusedVariables false
set_option linter.unusedSimpArgs false
set_option maxHeartbeats 8000000
set_option maxRecDepth 100000
def spec_l21Of.l0 : Nat → List Int → Int → Int → Int → List (S57) → Option (List Int)
 | 0, _, _, _, _, _ => none
 | k + 1, z, y, u, q, l => if u < (l.length : Int) then (if 0 ≤ u then ((spec_l21Ends.f k z ((rd_T57 l u).f0)).bind fun A => (if A = true then (if y < 0 then (spec_l21Of.l0 k z u (wrap64 (u + 1)) q l) else (if 0 ≤ y then (if y < (l.length : Int) then (if (((rd_T57 l u).f0).length : Int) > (((rd_T57 l y).f0).length : Int) then (spec_l21Of.l0 k z u (wrap64 (u + 1)) q l) else (spec_l21Of.l0 k z y (wrap64 (u + 1)) q l)) else (none)) else (none))) else (spec_l21Of.l0 k z y (wrap64 (u + 1)) q l))) else (none)) else (if 0 ≤ y then (if y < (l.length : Int) then (some ((rd_T57 l y).f1)) else (none)) else (none))
def spec_l21Of.f (k : Nat) (l : Int) (q : List (S57)) (u : List Int) : Option (List Int) := spec_l21Of.l0 k u (-1) 0 l q
theorem spec_l21Of.calls (k) (m1) (N1 : Nat → Prop) (n1) (o1) (q : List (S57)) (A1) (c1) (l1 : List Int) (r : List Int) (w) (A2 : Kd.V k57 57 w w.heap.size (fun k_ => N1 k_) (.slice n1 q.length o1) q) (F2 : Kd.C (Kd.int .i64) w A1 l1.length l1) (G2 : l1.length ≤ c1) (h : spec_l21Of.f k m1 q l1 = some r) :
 Calls Try.prog 44 #[.agg #[.int .i64 m1, .slice n1 q.length o1], .slice A1 l1.length c1] w fun e w' => ∃ v0_ : Value, e = .returned (v0_) ∧ Kd.V (Kd.int .i64) 3 w' w.heap.size (fun k_ => (N1 k_ ∨ w.heap.size ≤ k_)) v0_ r ∧ Below w.heap.size w w' := by
 have N3 := Try.underlying29
 have I0 := zK (show Kd.V k57 57 w w.heap.size (fun k_ => (N1 k_ ∨ w.heap.size ≤ k_)) (.slice n1 q.length o1) q from Kd.V_mono A2 (fun k_ hk => .inl hk))
 have i1 := zK F2
 have j1 := zK G2
 clear F2 G2
 have HB := zK (Below.refl w.heap.size w)
 have H : (spec_l21Of.l0 k l1 (-1) 0 m1 q) = some r := h
 clear h
 have H' := zK H
 clear H
 go_enter Try.func44, Try.ntmps44
 go_wp2_with (first | ((with_reducible refine gd 2 rfl ?_); (try (refine gate_guard (by rfl) ?_; dsimp only)); refine zJ 2 #[.int .i64 m1, .slice n1 q.length o1] 29 ?_; intro g1 hg w3 hbox hb; have d2 := zK (Kd.V_below (Kd.V_elderB (zkV I0) g1 (Nat.le_of_eq hg.symm)) hb); have e2 := z8 hb; have f2 := zK (hbox); have g2 := z9 hg; have i2 := z9 hg; revert d2 e2 f2 g2 i2; clear I0 HB; intro I0 HB E0 j2 l2; clear hb hbox hg))
 repeat (go_quiet (first | ((with_reducible refine gd 2 rfl ?_); (try (refine gate_guard (by rfl) ?_; dsimp only)); refine zJ 2 #[.int .i64 m1, .slice n1 q.length o1] 29 ?_; intro g1 hg w3 hbox hb; have d2 := zK (Kd.V_below (Kd.V_elderB (zkV I0) g1 (Nat.le_of_eq hg.symm)) hb); have e2 := z8 hb; have f2 := zK (hbox); have g2 := z9 hg; have i2 := z9 hg; revert d2 e2 f2 g2 i2; clear I0 HB; intro I0 HB E0 j2 l2; clear hb hbox hg)); try go_wp2_with (first | ((with_reducible refine gd 2 rfl ?_); (try (refine gate_guard (by rfl) ?_; dsimp only)); refine zJ 2 #[.int .i64 m1, .slice n1 q.length o1] 29 ?_; intro g1 hg w3 hbox hb; have d2 := zK (Kd.V_below (Kd.V_elderB (zkV I0) g1 (Nat.le_of_eq hg.symm)) hb); have e2 := z8 hb; have f2 := zK (hbox); have g2 := z9 hg; have i2 := z9 hg; revert d2 e2 f2 g2 i2; clear I0 HB; intro I0 HB E0 j2 l2; clear hb hbox hg)))
 go_loopg [5, 6] k (fun kq v5 v6 w' => ∃ (y : Int) (u : Int), v5 = .int .i64 y ∧ v6 = .int .i64 u ∧ Aside0 (spec_l21Of.l0 kq l1 y u m1 q = some r) ∧ Aside0 (kq ≤ k) ∧ Aside0 (Kd.V k57 57 w' w.heap.size (fun k_ => (N1 k_ ∨ w.heap.size ≤ k_) ∧ k_ ≠ g1) (.slice n1 q.length o1) q) ∧ Aside0 (w'.heap[g1]? = some (.cells #[.int .i64 m1, (.slice n1 q.length o1)] 29 (0, 0))) ∧ Aside0 (Below w.heap.size w w'))
 case atStart => exact ⟨((-1)), (0), zR, zR, H', ⟨Nat.le_refl _⟩, ⟨zkV I0⟩, ⟨zM E0⟩, ⟨zB⟩⟩
 clear H'
 try clear c1
 try clear p2
 obtain ⟨y, u, rfl, rfl, HA, J1, l, E0, HB⟩ := hrel
 rcases gk with _ | k1
 · exact absurd HA.out (by simp [spec_l21Of.l0])
 have H := HA.out
 clear HA
 simp only [spec_l21Of.l0] at H
 by_cases c4 : u < (q.length : Int)
 rotate_left
 · rw [if_neg c4] at H
   have L2 := z2 c4
   clear c4
   by_cases m2 : 0 ≤ y
   rotate_left
   · rw [if_neg m2] at H
     exact absurd H (by simp)
   rw [if_pos m2] at H
   have G3 := z1 m2
   clear m2
   by_cases n2 : y < (q.length : Int)
   rotate_left
   · rw [if_neg n2] at H
     exact absurd H (by simp)
   rw [if_pos n2] at H
   have I3 := z1 n2
   clear n2
   obtain rfl := z5 H
   obtain ⟨R2, T2, U2, V2⟩ := zc2 E0
   have b2 : 0 ≤ (y : Int) := z3
   have c2 : y < (q.length : Int) := z3
   obtain ⟨J3, x3, y3, A3, B3, M2, t2, x2, U1, V1, X1, a2⟩ := at_T57 (Kd.V_reads' l.out).2.2 y b2 c2
   cases M2
   obtain ⟨ce180, hce180, hMe180, hcc180⟩ := Kd.V_get l.out z57 y b2 (by first | exact c2 | exact z3 | (have e_ := (Kd.V_reads' l.out).1; omega))
   obtain ⟨ua180_0, uc180_0, ua180_1, uc180_1, rfl, ul180_0, ge180_0, ul180_1, ge180_1⟩ := k57_openF hMe180
   have D1 := hcc180 0 _ rfl
   rw [Nat.add_zero] at D1
   replace D1 := z5 (D1.symm.trans t2)
   injection D1 with hva_ hvn_ hvc_
   rw [hva_] at ge180_0
   rw [hvc_] at ul180_0
   have HL180_0 := zK (show Kd.V (Kd.int .i64) 3 _ w.heap.size _ _ ((rd_T57 q y).f0) from Kd.V_mk ul180_0 ge180_0)
   clear hva_ hvn_ hvc_ ge180_0 ul180_0
   have E1 := hcc180 1 _ rfl
   rw [add_field _ _ 1 (by omega)] at E1
   replace E1 := z5 (E1.symm.trans x2)
   injection E1 with hva_ hvn_ hvc_
   rw [hva_] at ge180_1
   rw [hvc_] at ul180_1
   have HL180_1 := zK (show Kd.V (Kd.int .i64) 3 _ w.heap.size _ _ ((rd_T57 q y).f1) from Kd.V_mk ul180_1 ge180_1)
   clear hva_ hvn_ hvc_ ge180_1 ul180_1
   clear hcc180 hce180
   have X2 := zK V1
   have a3 := zK U1
   clear V1 U1
   have b3 := zK a2
   have c3 := zK X1
   clear a2 X1
   replace b2 := eq_true b2
   replace c2 := eq_true c2
   go_wp2
   repeat (go_quiet (fail); try go_wp2)
   go_ret
   exact ⟨_, zE, Kd.V_mono (zlV HL180_1.out) (fun _ hk => hk.1), zB⟩
 rw [if_pos c4] at H
 have L2 := z1 c4
 clear c4
 by_cases c5 : 0 ≤ u
 rotate_left
 · rw [if_neg c5] at H
   exact absurd H (by simp)
 rw [if_pos c5] at H
 have O3 := z1 c5
 clear c5
 replace H := z6 H
 obtain ⟨N2, I2, H⟩ := H
 have A6 := zK I2
 clear I2
 by_cases c7 : N2 = true
 rotate_left
 · replace c7 := Bool.eq_false_iff.mpr c7
   subst c7
   rw [if_neg (show ¬ (false = true) by decide)] at H
   have H' := zK H
   clear H
   obtain ⟨d3, e3, f3, g3⟩ := zc2 E0
   have B0 : 0 ≤ (u : Int) := z3
   have C0 : u < (q.length : Int) := z3
   obtain ⟨D0, O1, R1, S1, T1, F1, o0, p0, q0, s0, t0, x0⟩ := at_T57 (Kd.V_reads' l.out).2.2 u B0 C0
   cases F1
   obtain ⟨ce176, hce176, hMe176, hcc176⟩ := Kd.V_get l.out z57 u B0 (by first | exact C0 | exact z3 | (have e_ := (Kd.V_reads' l.out).1; omega))
   obtain ⟨ua176_0, uc176_0, ua176_1, uc176_1, rfl, ul176_0, ge176_0, ul176_1, ge176_1⟩ := k57_openF hMe176
   have J := hcc176 0 _ rfl
   rw [Nat.add_zero] at J
   replace J := z5 (J.symm.trans o0)
   injection J with hva_ hvn_ hvc_
   rw [hva_] at ge176_0
   rw [hvc_] at ul176_0
   have HL176_0 := zK (show Kd.V (Kd.int .i64) 3 _ w.heap.size _ _ ((rd_T57 q u).f0) from Kd.V_mk ul176_0 ge176_0)
   clear hva_ hvn_ hvc_ ge176_0 ul176_0
   have L := hcc176 1 _ rfl
   rw [add_field _ _ 1 (by omega)] at L
   replace L := z5 (L.symm.trans p0)
   injection L with hva_ hvn_ hvc_
   rw [hva_] at ge176_1
   rw [hvc_] at ul176_1
   have HL176_1 := zK (show Kd.V (Kd.int .i64) 3 _ w.heap.size _ _ ((rd_T57 q u).f1) from Kd.V_mk ul176_1 ge176_1)
   clear hva_ hvn_ hvc_ ge176_1 ul176_1
   clear hcc176 hce176
   have I := zK s0
   have n0 := zK q0
   clear s0 q0
   have G1 := zK x0
   have I1 := zK t0
   clear x0 t0
   replace B0 := eq_true B0
   replace C0 := eq_true C0
   go_wp2_with (first | (go_at_call 58; (with_reducible refine (spec_l21Ends.calls k1 _ _ l1 _ _ ((rd_T57 q u).f0) false _ ?side1 ?side2 ?side3 ?side4 A6.out).mono ?_); (case side1 => exact zS i1); (case side2 => exact j1.out); (case side3 => repeat (first | exact (by repeat (first | (with_reducible exact I.out) | (with_reducible refine Kd.C_alloc ?_ _) | (with_reducible refine Kd.C_drewN ?_ _) | (with_reducible refine Kd.C_drew ?_) | exact I.out)) | (with_reducible refine Kd.C_alloc ?_ _) | (with_reducible refine Kd.C_drewN ?_ _) | (with_reducible refine Kd.C_drew ?_))); (case side4 => exact n0.out); rintro e w' ⟨rfl, ⟨nd, rfl⟩⟩; (try first | exact ⟨rfl, _, World.drewN_drewN _ _ _⟩ | exact ⟨rfl, _, Eq.trans (World.drewN_drewN _ _ _) (congrArg (World.drewN _) (Nat.add_assoc _ _ _))⟩)))
   repeat (go_quiet (first | (go_at_call 58; (with_reducible refine (spec_l21Ends.calls k1 _ _ l1 _ _ ((rd_T57 q u).f0) false _ ?side1 ?side2 ?side3 ?side4 A6.out).mono ?_); (case side1 => exact zS i1); (case side2 => exact j1.out); (case side3 => repeat (first | exact (by repeat (first | (with_reducible exact I.out) | (with_reducible refine Kd.C_alloc ?_ _) | (with_reducible refine Kd.C_drewN ?_ _) | (with_reducible refine Kd.C_drew ?_) | exact I.out)) | (with_reducible refine Kd.C_alloc ?_ _) | (with_reducible refine Kd.C_drewN ?_ _) | (with_reducible refine Kd.C_drew ?_))); (case side4 => exact n0.out); rintro e w' ⟨rfl, ⟨nd, rfl⟩⟩; (try first | exact ⟨rfl, _, World.drewN_drewN _ _ _⟩ | exact ⟨rfl, _, Eq.trans (World.drewN_drewN _ _ _) (congrArg (World.drewN _) (Nat.add_assoc _ _ _))⟩))); try go_wp2_with (first | (go_at_call 58; (with_reducible refine (spec_l21Ends.calls k1 _ _ l1 _ _ ((rd_T57 q u).f0) false _ ?side1 ?side2 ?side3 ?side4 A6.out).mono ?_); (case side1 => exact zS i1); (case side2 => exact j1.out); (case side3 => repeat (first | exact (by repeat (first | (with_reducible exact I.out) | (with_reducible refine Kd.C_alloc ?_ _) | (with_reducible refine Kd.C_drewN ?_ _) | (with_reducible refine Kd.C_drew ?_) | exact I.out)) | (with_reducible refine Kd.C_alloc ?_ _) | (with_reducible refine Kd.C_drewN ?_ _) | (with_reducible refine Kd.C_drew ?_))); (case side4 => exact n0.out); rintro e w' ⟨rfl, ⟨nd, rfl⟩⟩; (try first | exact ⟨rfl, _, World.drewN_drewN _ _ _⟩ | exact ⟨rfl, _, Eq.trans (World.drewN_drewN _ _ _) (congrArg (World.drewN _) (Nat.add_assoc _ _ _))⟩))))
   go_roundg k1
   case measure => have := J1.out; omega
   case rel => exact ⟨(y), (wrap64 (u + 1)), zR, zR, H', ⟨by have := J1.out; omega⟩, ⟨zkV l⟩, ⟨zM E0⟩, ⟨zB⟩⟩
 subst c7
 rw [if_pos rfl] at H
 by_cases c8 : y < 0
 · rw [if_pos c8] at H
   have O2 := z1 c8
   clear c8
   have H' := zK H
   clear H
   obtain ⟨C3, D3, E3, F3⟩ := zc2 E0
   have B0 : 0 ≤ (u : Int) := z3
   have C0 : u < (q.length : Int) := z3
   obtain ⟨D0, O1, R1, S1, T1, F1, o0, p0, q0, s0, t0, x0⟩ := at_T57 (Kd.V_reads' l.out).2.2 u B0 C0
   cases F1
   obtain ⟨ce176, hce176, hMe176, hcc176⟩ := Kd.V_get l.out z57 u B0 (by first | exact C0 | exact z3 | (have e_ := (Kd.V_reads' l.out).1; omega))
   obtain ⟨ua176_0, uc176_0, ua176_1, uc176_1, rfl, ul176_0, ge176_0, ul176_1, ge176_1⟩ := k57_openF hMe176
   have J := hcc176 0 _ rfl
   rw [Nat.add_zero] at J
   replace J := z5 (J.symm.trans o0)
   injection J with hva_ hvn_ hvc_
   rw [hva_] at ge176_0
   rw [hvc_] at ul176_0
   have HL176_0 := zK (show Kd.V (Kd.int .i64) 3 _ w.heap.size _ _ ((rd_T57 q u).f0) from Kd.V_mk ul176_0 ge176_0)
   clear hva_ hvn_ hvc_ ge176_0 ul176_0
   have L := hcc176 1 _ rfl
   rw [add_field _ _ 1 (by omega)] at L
   replace L := z5 (L.symm.trans p0)
   injection L with hva_ hvn_ hvc_
   rw [hva_] at ge176_1
   rw [hvc_] at ul176_1
   have HL176_1 := zK (show Kd.V (Kd.int .i64) 3 _ w.heap.size _ _ ((rd_T57 q u).f1) from Kd.V_mk ul176_1 ge176_1)
   clear hva_ hvn_ hvc_ ge176_1 ul176_1
   clear hcc176 hce176
   have I := zK s0
   have n0 := zK q0
   clear s0 q0
   have G1 := zK x0
   have I1 := zK t0
   clear x0 t0
   replace B0 := eq_true B0
   replace C0 := eq_true C0
   go_wp2_with (first | (go_at_call 58; (with_reducible refine (spec_l21Ends.calls k1 _ _ l1 _ _ ((rd_T57 q u).f0) true _ ?side1 ?side2 ?side3 ?side4 A6.out).mono ?_); (case side1 => exact zS i1); (case side2 => exact j1.out); (case side3 => repeat (first | exact (by repeat (first | (with_reducible exact I.out) | (with_reducible refine Kd.C_alloc ?_ _) | (with_reducible refine Kd.C_drewN ?_ _) | (with_reducible refine Kd.C_drew ?_) | exact I.out)) | (with_reducible refine Kd.C_alloc ?_ _) | (with_reducible refine Kd.C_drewN ?_ _) | (with_reducible refine Kd.C_drew ?_))); (case side4 => exact n0.out); rintro e w' ⟨rfl, ⟨nd, rfl⟩⟩; (try first | exact ⟨rfl, _, World.drewN_drewN _ _ _⟩ | exact ⟨rfl, _, Eq.trans (World.drewN_drewN _ _ _) (congrArg (World.drewN _) (Nat.add_assoc _ _ _))⟩)))
   repeat (go_quiet (first | (go_at_call 58; (with_reducible refine (spec_l21Ends.calls k1 _ _ l1 _ _ ((rd_T57 q u).f0) true _ ?side1 ?side2 ?side3 ?side4 A6.out).mono ?_); (case side1 => exact zS i1); (case side2 => exact j1.out); (case side3 => repeat (first | exact (by repeat (first | (with_reducible exact I.out) | (with_reducible refine Kd.C_alloc ?_ _) | (with_reducible refine Kd.C_drewN ?_ _) | (with_reducible refine Kd.C_drew ?_) | exact I.out)) | (with_reducible refine Kd.C_alloc ?_ _) | (with_reducible refine Kd.C_drewN ?_ _) | (with_reducible refine Kd.C_drew ?_))); (case side4 => exact n0.out); rintro e w' ⟨rfl, ⟨nd, rfl⟩⟩; (try first | exact ⟨rfl, _, World.drewN_drewN _ _ _⟩ | exact ⟨rfl, _, Eq.trans (World.drewN_drewN _ _ _) (congrArg (World.drewN _) (Nat.add_assoc _ _ _))⟩))); try go_wp2_with (first | (go_at_call 58; (with_reducible refine (spec_l21Ends.calls k1 _ _ l1 _ _ ((rd_T57 q u).f0) true _ ?side1 ?side2 ?side3 ?side4 A6.out).mono ?_); (case side1 => exact zS i1); (case side2 => exact j1.out); (case side3 => repeat (first | exact (by repeat (first | (with_reducible exact I.out) | (with_reducible refine Kd.C_alloc ?_ _) | (with_reducible refine Kd.C_drewN ?_ _) | (with_reducible refine Kd.C_drew ?_) | exact I.out)) | (with_reducible refine Kd.C_alloc ?_ _) | (with_reducible refine Kd.C_drewN ?_ _) | (with_reducible refine Kd.C_drew ?_))); (case side4 => exact n0.out); rintro e w' ⟨rfl, ⟨nd, rfl⟩⟩; (try first | exact ⟨rfl, _, World.drewN_drewN _ _ _⟩ | exact ⟨rfl, _, Eq.trans (World.drewN_drewN _ _ _) (congrArg (World.drewN _) (Nat.add_assoc _ _ _))⟩))))
   go_roundg k1
   case measure => have := J1.out; omega
   case rel => exact ⟨(u), (wrap64 (u + 1)), zR, zR, H', ⟨by have := J1.out; omega⟩, ⟨zkV l⟩, ⟨zM E0⟩, ⟨zB⟩⟩
 rw [if_neg c8] at H
 have O2 := z2 c8
 clear c8
 by_cases o2 : 0 ≤ y
 rotate_left
 · rw [if_neg o2] at H
   exact absurd H (by simp)
 rw [if_pos o2] at H
 have L3 := z1 o2
 clear o2
 by_cases q2 : y < (q.length : Int)
 rotate_left
 · rw [if_neg q2] at H
   exact absurd H (by simp)
 rw [if_pos q2] at H
 have M3 := z1 q2
 clear q2
 by_cases L1 : (((rd_T57 q u).f0).length : Int) > (((rd_T57 q y).f0).length : Int)
 · rw [if_pos L1] at H
   have D2 := z1 L1
   have E2 : decide (((rd_T57 q y).f0).length < ((rd_T57 q u).f0).length) = true := z1 (Int.ofNat_lt.mp L1)
   clear L1
   have H' := zK H
   clear H
   obtain ⟨i3, j3, l3, m3⟩ := zc2 E0
   have B0 : 0 ≤ (u : Int) := z3
   have C0 : u < (q.length : Int) := z3
   obtain ⟨D0, O1, R1, S1, T1, F1, o0, p0, q0, s0, t0, x0⟩ := at_T57 (Kd.V_reads' l.out).2.2 u B0 C0
   cases F1
   obtain ⟨ce176, hce176, hMe176, hcc176⟩ := Kd.V_get l.out z57 u B0 (by first | exact C0 | exact z3 | (have e_ := (Kd.V_reads' l.out).1; omega))
   obtain ⟨ua176_0, uc176_0, ua176_1, uc176_1, rfl, ul176_0, ge176_0, ul176_1, ge176_1⟩ := k57_openF hMe176
   have J := hcc176 0 _ rfl
   rw [Nat.add_zero] at J
   replace J := z5 (J.symm.trans o0)
   injection J with hva_ hvn_ hvc_
   rw [hva_] at ge176_0
   rw [hvc_] at ul176_0
   have HL176_0 := zK (show Kd.V (Kd.int .i64) 3 _ w.heap.size _ _ ((rd_T57 q u).f0) from Kd.V_mk ul176_0 ge176_0)
   clear hva_ hvn_ hvc_ ge176_0 ul176_0
   have L := hcc176 1 _ rfl
   rw [add_field _ _ 1 (by omega)] at L
   replace L := z5 (L.symm.trans p0)
   injection L with hva_ hvn_ hvc_
   rw [hva_] at ge176_1
   rw [hvc_] at ul176_1
   have HL176_1 := zK (show Kd.V (Kd.int .i64) 3 _ w.heap.size _ _ ((rd_T57 q u).f1) from Kd.V_mk ul176_1 ge176_1)
   clear hva_ hvn_ hvc_ ge176_1 ul176_1
   clear hcc176 hce176
   have I := zK s0
   have n0 := zK q0
   clear s0 q0
   have G1 := zK x0
   have I1 := zK t0
   clear x0 t0
   replace B0 := eq_true B0
   replace C0 := eq_true C0
   go_wp2_with (first | (go_at_call 58; (with_reducible refine (spec_l21Ends.calls k1 _ _ l1 _ _ ((rd_T57 q u).f0) true _ ?side1 ?side2 ?side3 ?side4 A6.out).mono ?_); (case side1 => exact zS i1); (case side2 => exact j1.out); (case side3 => repeat (first | exact (by repeat (first | (with_reducible exact I.out) | (with_reducible refine Kd.C_alloc ?_ _) | (with_reducible refine Kd.C_drewN ?_ _) | (with_reducible refine Kd.C_drew ?_) | exact I.out)) | (with_reducible refine Kd.C_alloc ?_ _) | (with_reducible refine Kd.C_drewN ?_ _) | (with_reducible refine Kd.C_drew ?_))); (case side4 => exact n0.out); rintro e w' ⟨rfl, ⟨nd, rfl⟩⟩; (try first | exact ⟨rfl, _, World.drewN_drewN _ _ _⟩ | exact ⟨rfl, _, Eq.trans (World.drewN_drewN _ _ _) (congrArg (World.drewN _) (Nat.add_assoc _ _ _))⟩); have g0 : 0 ≤ (u : Int) := z3; have i0 : u < (q.length : Int) := z3; obtain ⟨F0, p1, q1, s1, t1, J0, M, O, T, U, X, a0⟩ := at_T57 (Kd.V_reads' l.out).2.2 u g0 i0; obtain rfl : D0 = F0 := (by injection J0); obtain ⟨ce178, hce178, hMe178, hcc178⟩ := Kd.V_get l.out z57 u g0 (by first | exact i0 | exact z3 | (have e_ := (Kd.V_reads' l.out).1; omega)); obtain ⟨ua178_0, uc178_0, ua178_1, uc178_1, rfl, ul178_0, ge178_0, ul178_1, ge178_1⟩ := k57_openF hMe178; have z := hcc178 0 _ rfl; rw [Nat.add_zero] at z; replace z := z5 (z.symm.trans M); injection z with hva_ hvn_ hvc_; rw [hva_] at ge178_0; rw [hvc_] at ul178_0; have HL178_0 := zK (show Kd.V (Kd.int .i64) 3 _ w.heap.size _ _ ((rd_T57 q u).f0) from Kd.V_mk ul178_0 ge178_0); clear hva_ hvn_ hvc_ ge178_0 ul178_0; have A := hcc178 1 _ rfl; rw [add_field _ _ 1 (by omega)] at A; replace A := z5 (A.symm.trans O); injection A with hva_ hvn_ hvc_; rw [hva_] at ge178_1; rw [hvc_] at ul178_1; have HL178_1 := zK (show Kd.V (Kd.int .i64) 3 _ w.heap.size _ _ ((rd_T57 q u).f1) from Kd.V_mk ul178_1 ge178_1); clear hva_ hvn_ hvc_ ge178_1 ul178_1; clear hcc178 hce178; have M0 := zK U; have N0 := zK T; clear U T; have O0 := zK a0; have R0 := zK X; clear a0 X; replace g0 := eq_true g0; replace i0 := eq_true i0; have ea_ := z5 (by first | exact o0.symm.trans M | exact S0.symm.trans T0); injection ea_ with ea_ en_ ec_; subst ea_; subst ec_; clear en_; have ea_ := z5 (by first | exact p0.symm.trans O | exact U0.symm.trans V0); injection ea_ with ea_ en_ ec_; subst ea_; subst ec_; clear en_; have j0 : 0 ≤ (y : Int) := z3; have m0 : y < (q.length : Int) := z3; obtain ⟨G0, x1, y1, B1, C1, L0, y0, A0, b0, c0, d0, e0⟩ := at_T57 (Kd.V_reads' l.out).2.2 y j0 m0; obtain rfl : D0 = G0 := (by injection L0); obtain ⟨ce179, hce179, hMe179, hcc179⟩ := Kd.V_get l.out z57 y j0 (by first | exact m0 | exact z3 | (have e_ := (Kd.V_reads' l.out).1; omega)); obtain ⟨ua179_0, uc179_0, ua179_1, uc179_1, rfl, ul179_0, ge179_0, ul179_1, ge179_1⟩ := k57_openF hMe179; have B := hcc179 0 _ rfl; rw [Nat.add_zero] at B; replace B := z5 (B.symm.trans y0); injection B with hva_ hvn_ hvc_; rw [hva_] at ge179_0; rw [hvc_] at ul179_0; have HL179_0 := zK (show Kd.V (Kd.int .i64) 3 _ w.heap.size _ _ ((rd_T57 q y).f0) from Kd.V_mk ul179_0 ge179_0); clear hva_ hvn_ hvc_ ge179_0 ul179_0; have E := hcc179 1 _ rfl; rw [add_field _ _ 1 (by omega)] at E; replace E := z5 (E.symm.trans A0); injection E with hva_ hvn_ hvc_; rw [hva_] at ge179_1; rw [hvc_] at ul179_1; have HL179_1 := zK (show Kd.V (Kd.int .i64) 3 _ w.heap.size _ _ ((rd_T57 q y).f1) from Kd.V_mk ul179_1 ge179_1); clear hva_ hvn_ hvc_ ge179_1 ul179_1; clear hcc179 hce179; have X0 := zK c0; have a1 := zK b0; clear c0 b0; have b1 := zK e0; have d1 := zK d0; clear e0 d0; replace j0 := eq_true j0; replace m0 := eq_true m0))
   repeat (go_quiet (first | (go_at_call 58; (with_reducible refine (spec_l21Ends.calls k1 _ _ l1 _ _ ((rd_T57 q u).f0) true _ ?side1 ?side2 ?side3 ?side4 A6.out).mono ?_); (case side1 => exact zS i1); (case side2 => exact j1.out); (case side3 => repeat (first | exact (by repeat (first | (with_reducible exact I.out) | (with_reducible refine Kd.C_alloc ?_ _) | (with_reducible refine Kd.C_drewN ?_ _) | (with_reducible refine Kd.C_drew ?_) | exact I.out)) | (with_reducible refine Kd.C_alloc ?_ _) | (with_reducible refine Kd.C_drewN ?_ _) | (with_reducible refine Kd.C_drew ?_))); (case side4 => exact n0.out); rintro e w' ⟨rfl, ⟨nd, rfl⟩⟩; (try first | exact ⟨rfl, _, World.drewN_drewN _ _ _⟩ | exact ⟨rfl, _, Eq.trans (World.drewN_drewN _ _ _) (congrArg (World.drewN _) (Nat.add_assoc _ _ _))⟩); have g0 : 0 ≤ (u : Int) := z3; have i0 : u < (q.length : Int) := z3; obtain ⟨F0, p1, q1, s1, t1, J0, M, O, T, U, X, a0⟩ := at_T57 (Kd.V_reads' l.out).2.2 u g0 i0; obtain rfl : D0 = F0 := (by injection J0); obtain ⟨ce178, hce178, hMe178, hcc178⟩ := Kd.V_get l.out z57 u g0 (by first | exact i0 | exact z3 | (have e_ := (Kd.V_reads' l.out).1; omega)); obtain ⟨ua178_0, uc178_0, ua178_1, uc178_1, rfl, ul178_0, ge178_0, ul178_1, ge178_1⟩ := k57_openF hMe178; have z := hcc178 0 _ rfl; rw [Nat.add_zero] at z; replace z := z5 (z.symm.trans M); injection z with hva_ hvn_ hvc_; rw [hva_] at ge178_0; rw [hvc_] at ul178_0; have HL178_0 := zK (show Kd.V (Kd.int .i64) 3 _ w.heap.size _ _ ((rd_T57 q u).f0) from Kd.V_mk ul178_0 ge178_0); clear hva_ hvn_ hvc_ ge178_0 ul178_0; have A := hcc178 1 _ rfl; rw [add_field _ _ 1 (by omega)] at A; replace A := z5 (A.symm.trans O); injection A with hva_ hvn_ hvc_; rw [hva_] at ge178_1; rw [hvc_] at ul178_1; have HL178_1 := zK (show Kd.V (Kd.int .i64) 3 _ w.heap.size _ _ ((rd_T57 q u).f1) from Kd.V_mk ul178_1 ge178_1); clear hva_ hvn_ hvc_ ge178_1 ul178_1; clear hcc178 hce178; have M0 := zK U; have N0 := zK T; clear U T; have O0 := zK a0; have R0 := zK X; clear a0 X; replace g0 := eq_true g0; replace i0 := eq_true i0; have ea_ := z5 (by first | exact o0.symm.trans M | exact S0.symm.trans T0); injection ea_ with ea_ en_ ec_; subst ea_; subst ec_; clear en_; have ea_ := z5 (by first | exact p0.symm.trans O | exact U0.symm.trans V0); injection ea_ with ea_ en_ ec_; subst ea_; subst ec_; clear en_; have j0 : 0 ≤ (y : Int) := z3; have m0 : y < (q.length : Int) := z3; obtain ⟨G0, x1, y1, B1, C1, L0, y0, A0, b0, c0, d0, e0⟩ := at_T57 (Kd.V_reads' l.out).2.2 y j0 m0; obtain rfl : D0 = G0 := (by injection L0); obtain ⟨ce179, hce179, hMe179, hcc179⟩ := Kd.V_get l.out z57 y j0 (by first | exact m0 | exact z3 | (have e_ := (Kd.V_reads' l.out).1; omega)); obtain ⟨ua179_0, uc179_0, ua179_1, uc179_1, rfl, ul179_0, ge179_0, ul179_1, ge179_1⟩ := k57_openF hMe179; have B := hcc179 0 _ rfl; rw [Nat.add_zero] at B; replace B := z5 (B.symm.trans y0); injection B with hva_ hvn_ hvc_; rw [hva_] at ge179_0; rw [hvc_] at ul179_0; have HL179_0 := zK (show Kd.V (Kd.int .i64) 3 _ w.heap.size _ _ ((rd_T57 q y).f0) from Kd.V_mk ul179_0 ge179_0); clear hva_ hvn_ hvc_ ge179_0 ul179_0; have E := hcc179 1 _ rfl; rw [add_field _ _ 1 (by omega)] at E; replace E := z5 (E.symm.trans A0); injection E with hva_ hvn_ hvc_; rw [hva_] at ge179_1; rw [hvc_] at ul179_1; have HL179_1 := zK (show Kd.V (Kd.int .i64) 3 _ w.heap.size _ _ ((rd_T57 q y).f1) from Kd.V_mk ul179_1 ge179_1); clear hva_ hvn_ hvc_ ge179_1 ul179_1; clear hcc179 hce179; have X0 := zK c0; have a1 := zK b0; clear c0 b0; have b1 := zK e0; have d1 := zK d0; clear e0 d0; replace j0 := eq_true j0; replace m0 := eq_true m0)); try go_wp2_with (first | (go_at_call 58; (with_reducible refine (spec_l21Ends.calls k1 _ _ l1 _ _ ((rd_T57 q u).f0) true _ ?side1 ?side2 ?side3 ?side4 A6.out).mono ?_); (case side1 => exact zS i1); (case side2 => exact j1.out); (case side3 => repeat (first | exact (by repeat (first | (with_reducible exact I.out) | (with_reducible refine Kd.C_alloc ?_ _) | (with_reducible refine Kd.C_drewN ?_ _) | (with_reducible refine Kd.C_drew ?_) | exact I.out)) | (with_reducible refine Kd.C_alloc ?_ _) | (with_reducible refine Kd.C_drewN ?_ _) | (with_reducible refine Kd.C_drew ?_))); (case side4 => exact n0.out); rintro e w' ⟨rfl, ⟨nd, rfl⟩⟩; (try first | exact ⟨rfl, _, World.drewN_drewN _ _ _⟩ | exact ⟨rfl, _, Eq.trans (World.drewN_drewN _ _ _) (congrArg (World.drewN _) (Nat.add_assoc _ _ _))⟩); have g0 : 0 ≤ (u : Int) := z3; have i0 : u < (q.length : Int) := z3; obtain ⟨F0, p1, q1, s1, t1, J0, M, O, T, U, X, a0⟩ := at_T57 (Kd.V_reads' l.out).2.2 u g0 i0; obtain rfl : D0 = F0 := (by injection J0); obtain ⟨ce178, hce178, hMe178, hcc178⟩ := Kd.V_get l.out z57 u g0 (by first | exact i0 | exact z3 | (have e_ := (Kd.V_reads' l.out).1; omega)); obtain ⟨ua178_0, uc178_0, ua178_1, uc178_1, rfl, ul178_0, ge178_0, ul178_1, ge178_1⟩ := k57_openF hMe178; have z := hcc178 0 _ rfl; rw [Nat.add_zero] at z; replace z := z5 (z.symm.trans M); injection z with hva_ hvn_ hvc_; rw [hva_] at ge178_0; rw [hvc_] at ul178_0; have HL178_0 := zK (show Kd.V (Kd.int .i64) 3 _ w.heap.size _ _ ((rd_T57 q u).f0) from Kd.V_mk ul178_0 ge178_0); clear hva_ hvn_ hvc_ ge178_0 ul178_0; have A := hcc178 1 _ rfl; rw [add_field _ _ 1 (by omega)] at A; replace A := z5 (A.symm.trans O); injection A with hva_ hvn_ hvc_; rw [hva_] at ge178_1; rw [hvc_] at ul178_1; have HL178_1 := zK (show Kd.V (Kd.int .i64) 3 _ w.heap.size _ _ ((rd_T57 q u).f1) from Kd.V_mk ul178_1 ge178_1); clear hva_ hvn_ hvc_ ge178_1 ul178_1; clear hcc178 hce178; have M0 := zK U; have N0 := zK T; clear U T; have O0 := zK a0; have R0 := zK X; clear a0 X; replace g0 := eq_true g0; replace i0 := eq_true i0; have ea_ := z5 (by first | exact o0.symm.trans M | exact S0.symm.trans T0); injection ea_ with ea_ en_ ec_; subst ea_; subst ec_; clear en_; have ea_ := z5 (by first | exact p0.symm.trans O | exact U0.symm.trans V0); injection ea_ with ea_ en_ ec_; subst ea_; subst ec_; clear en_; have j0 : 0 ≤ (y : Int) := z3; have m0 : y < (q.length : Int) := z3; obtain ⟨G0, x1, y1, B1, C1, L0, y0, A0, b0, c0, d0, e0⟩ := at_T57 (Kd.V_reads' l.out).2.2 y j0 m0; obtain rfl : D0 = G0 := (by injection L0); obtain ⟨ce179, hce179, hMe179, hcc179⟩ := Kd.V_get l.out z57 y j0 (by first | exact m0 | exact z3 | (have e_ := (Kd.V_reads' l.out).1; omega)); obtain ⟨ua179_0, uc179_0, ua179_1, uc179_1, rfl, ul179_0, ge179_0, ul179_1, ge179_1⟩ := k57_openF hMe179; have B := hcc179 0 _ rfl; rw [Nat.add_zero] at B; replace B := z5 (B.symm.trans y0); injection B with hva_ hvn_ hvc_; rw [hva_] at ge179_0; rw [hvc_] at ul179_0; have HL179_0 := zK (show Kd.V (Kd.int .i64) 3 _ w.heap.size _ _ ((rd_T57 q y).f0) from Kd.V_mk ul179_0 ge179_0); clear hva_ hvn_ hvc_ ge179_0 ul179_0; have E := hcc179 1 _ rfl; rw [add_field _ _ 1 (by omega)] at E; replace E := z5 (E.symm.trans A0); injection E with hva_ hvn_ hvc_; rw [hva_] at ge179_1; rw [hvc_] at ul179_1; have HL179_1 := zK (show Kd.V (Kd.int .i64) 3 _ w.heap.size _ _ ((rd_T57 q y).f1) from Kd.V_mk ul179_1 ge179_1); clear hva_ hvn_ hvc_ ge179_1 ul179_1; clear hcc179 hce179; have X0 := zK c0; have a1 := zK b0; clear c0 b0; have b1 := zK e0; have d1 := zK d0; clear e0 d0; replace j0 := eq_true j0; replace m0 := eq_true m0)))
   go_roundg k1
   case measure => have := J1.out; omega
   case rel => exact ⟨(u), (wrap64 (u + 1)), zR, zR, H', ⟨by have := J1.out; omega⟩, ⟨zkV l⟩, ⟨zM E0⟩, ⟨zB⟩⟩
 rw [if_neg L1] at H
 have D2 := z2 L1
 have E2 : decide (((rd_T57 q y).f0).length < ((rd_T57 q u).f0).length) = false := z2 (fun h => L1 (Int.ofNat_lt.mpr h))
 clear L1
 have H' := zK H
 clear H
 obtain ⟨n3, o3, p3, q3⟩ := zc2 E0
 have B0 : 0 ≤ (u : Int) := z3
 have C0 : u < (q.length : Int) := z3
 obtain ⟨D0, O1, R1, S1, T1, F1, o0, p0, q0, s0, t0, x0⟩ := at_T57 (Kd.V_reads' l.out).2.2 u B0 C0
 cases F1
 obtain ⟨ce176, hce176, hMe176, hcc176⟩ := Kd.V_get l.out z57 u B0 (by first | exact C0 | exact z3 | (have e_ := (Kd.V_reads' l.out).1; omega))
 obtain ⟨ua176_0, uc176_0, ua176_1, uc176_1, rfl, ul176_0, ge176_0, ul176_1, ge176_1⟩ := k57_openF hMe176
 have J := hcc176 0 _ rfl
 rw [Nat.add_zero] at J
 replace J := z5 (J.symm.trans o0)
 injection J with hva_ hvn_ hvc_
 rw [hva_] at ge176_0
 rw [hvc_] at ul176_0
 have HL176_0 := zK (show Kd.V (Kd.int .i64) 3 _ w.heap.size _ _ ((rd_T57 q u).f0) from Kd.V_mk ul176_0 ge176_0)
 clear hva_ hvn_ hvc_ ge176_0 ul176_0
 have L := hcc176 1 _ rfl
 rw [add_field _ _ 1 (by omega)] at L
 replace L := z5 (L.symm.trans p0)
 injection L with hva_ hvn_ hvc_
 rw [hva_] at ge176_1
 rw [hvc_] at ul176_1
 have HL176_1 := zK (show Kd.V (Kd.int .i64) 3 _ w.heap.size _ _ ((rd_T57 q u).f1) from Kd.V_mk ul176_1 ge176_1)
 clear hva_ hvn_ hvc_ ge176_1 ul176_1
 clear hcc176 hce176
 have I := zK s0
 have n0 := zK q0
 clear s0 q0
 have G1 := zK x0
 have I1 := zK t0
 clear x0 t0
 replace B0 := eq_true B0
 replace C0 := eq_true C0
 go_wp2_with (first | (go_at_call 58; (with_reducible refine (spec_l21Ends.calls k1 _ _ l1 _ _ ((rd_T57 q u).f0) true _ ?side1 ?side2 ?side3 ?side4 A6.out).mono ?_); (case side1 => exact zS i1); (case side2 => exact j1.out); (case side3 => repeat (first | exact (by repeat (first | (with_reducible exact I.out) | (with_reducible refine Kd.C_alloc ?_ _) | (with_reducible refine Kd.C_drewN ?_ _) | (with_reducible refine Kd.C_drew ?_) | exact I.out)) | (with_reducible refine Kd.C_alloc ?_ _) | (with_reducible refine Kd.C_drewN ?_ _) | (with_reducible refine Kd.C_drew ?_))); (case side4 => exact n0.out); rintro e w' ⟨rfl, ⟨nd, rfl⟩⟩; (try first | exact ⟨rfl, _, World.drewN_drewN _ _ _⟩ | exact ⟨rfl, _, Eq.trans (World.drewN_drewN _ _ _) (congrArg (World.drewN _) (Nat.add_assoc _ _ _))⟩); have g0 : 0 ≤ (u : Int) := z3; have i0 : u < (q.length : Int) := z3; obtain ⟨F0, p1, q1, s1, t1, J0, M, O, T, U, X, a0⟩ := at_T57 (Kd.V_reads' l.out).2.2 u g0 i0; obtain rfl : D0 = F0 := (by injection J0); obtain ⟨ce178, hce178, hMe178, hcc178⟩ := Kd.V_get l.out z57 u g0 (by first | exact i0 | exact z3 | (have e_ := (Kd.V_reads' l.out).1; omega)); obtain ⟨ua178_0, uc178_0, ua178_1, uc178_1, rfl, ul178_0, ge178_0, ul178_1, ge178_1⟩ := k57_openF hMe178; have z := hcc178 0 _ rfl; rw [Nat.add_zero] at z; replace z := z5 (z.symm.trans M); injection z with hva_ hvn_ hvc_; rw [hva_] at ge178_0; rw [hvc_] at ul178_0; have HL178_0 := zK (show Kd.V (Kd.int .i64) 3 _ w.heap.size _ _ ((rd_T57 q u).f0) from Kd.V_mk ul178_0 ge178_0); clear hva_ hvn_ hvc_ ge178_0 ul178_0; have A := hcc178 1 _ rfl; rw [add_field _ _ 1 (by omega)] at A; replace A := z5 (A.symm.trans O); injection A with hva_ hvn_ hvc_; rw [hva_] at ge178_1; rw [hvc_] at ul178_1; have HL178_1 := zK (show Kd.V (Kd.int .i64) 3 _ w.heap.size _ _ ((rd_T57 q u).f1) from Kd.V_mk ul178_1 ge178_1); clear hva_ hvn_ hvc_ ge178_1 ul178_1; clear hcc178 hce178; have M0 := zK U; have N0 := zK T; clear U T; have O0 := zK a0; have R0 := zK X; clear a0 X; replace g0 := eq_true g0; replace i0 := eq_true i0; have ea_ := z5 (by first | exact o0.symm.trans M | exact S0.symm.trans T0); injection ea_ with ea_ en_ ec_; subst ea_; subst ec_; clear en_; have ea_ := z5 (by first | exact p0.symm.trans O | exact U0.symm.trans V0); injection ea_ with ea_ en_ ec_; subst ea_; subst ec_; clear en_; have j0 : 0 ≤ (y : Int) := z3; have m0 : y < (q.length : Int) := z3; obtain ⟨G0, x1, y1, B1, C1, L0, y0, A0, b0, c0, d0, e0⟩ := at_T57 (Kd.V_reads' l.out).2.2 y j0 m0; obtain rfl : D0 = G0 := (by injection L0); obtain ⟨ce179, hce179, hMe179, hcc179⟩ := Kd.V_get l.out z57 y j0 (by first | exact m0 | exact z3 | (have e_ := (Kd.V_reads' l.out).1; omega)); obtain ⟨ua179_0, uc179_0, ua179_1, uc179_1, rfl, ul179_0, ge179_0, ul179_1, ge179_1⟩ := k57_openF hMe179; have B := hcc179 0 _ rfl; rw [Nat.add_zero] at B; replace B := z5 (B.symm.trans y0); injection B with hva_ hvn_ hvc_; rw [hva_] at ge179_0; rw [hvc_] at ul179_0; have HL179_0 := zK (show Kd.V (Kd.int .i64) 3 _ w.heap.size _ _ ((rd_T57 q y).f0) from Kd.V_mk ul179_0 ge179_0); clear hva_ hvn_ hvc_ ge179_0 ul179_0; have E := hcc179 1 _ rfl; rw [add_field _ _ 1 (by omega)] at E; replace E := z5 (E.symm.trans A0); injection E with hva_ hvn_ hvc_; rw [hva_] at ge179_1; rw [hvc_] at ul179_1; have HL179_1 := zK (show Kd.V (Kd.int .i64) 3 _ w.heap.size _ _ ((rd_T57 q y).f1) from Kd.V_mk ul179_1 ge179_1); clear hva_ hvn_ hvc_ ge179_1 ul179_1; clear hcc179 hce179; have X0 := zK c0; have a1 := zK b0; clear c0 b0; have b1 := zK e0; have d1 := zK d0; clear e0 d0; replace j0 := eq_true j0; replace m0 := eq_true m0))
 repeat (go_quiet (first | (go_at_call 58; (with_reducible refine (spec_l21Ends.calls k1 _ _ l1 _ _ ((rd_T57 q u).f0) true _ ?side1 ?side2 ?side3 ?side4 A6.out).mono ?_); (case side1 => exact zS i1); (case side2 => exact j1.out); (case side3 => repeat (first | exact (by repeat (first | (with_reducible exact I.out) | (with_reducible refine Kd.C_alloc ?_ _) | (with_reducible refine Kd.C_drewN ?_ _) | (with_reducible refine Kd.C_drew ?_) | exact I.out)) | (with_reducible refine Kd.C_alloc ?_ _) | (with_reducible refine Kd.C_drewN ?_ _) | (with_reducible refine Kd.C_drew ?_))); (case side4 => exact n0.out); rintro e w' ⟨rfl, ⟨nd, rfl⟩⟩; (try first | exact ⟨rfl, _, World.drewN_drewN _ _ _⟩ | exact ⟨rfl, _, Eq.trans (World.drewN_drewN _ _ _) (congrArg (World.drewN _) (Nat.add_assoc _ _ _))⟩); have g0 : 0 ≤ (u : Int) := z3; have i0 : u < (q.length : Int) := z3; obtain ⟨F0, p1, q1, s1, t1, J0, M, O, T, U, X, a0⟩ := at_T57 (Kd.V_reads' l.out).2.2 u g0 i0; obtain rfl : D0 = F0 := (by injection J0); obtain ⟨ce178, hce178, hMe178, hcc178⟩ := Kd.V_get l.out z57 u g0 (by first | exact i0 | exact z3 | (have e_ := (Kd.V_reads' l.out).1; omega)); obtain ⟨ua178_0, uc178_0, ua178_1, uc178_1, rfl, ul178_0, ge178_0, ul178_1, ge178_1⟩ := k57_openF hMe178; have z := hcc178 0 _ rfl; rw [Nat.add_zero] at z; replace z := z5 (z.symm.trans M); injection z with hva_ hvn_ hvc_; rw [hva_] at ge178_0; rw [hvc_] at ul178_0; have HL178_0 := zK (show Kd.V (Kd.int .i64) 3 _ w.heap.size _ _ ((rd_T57 q u).f0) from Kd.V_mk ul178_0 ge178_0); clear hva_ hvn_ hvc_ ge178_0 ul178_0; have A := hcc178 1 _ rfl; rw [add_field _ _ 1 (by omega)] at A; replace A := z5 (A.symm.trans O); injection A with hva_ hvn_ hvc_; rw [hva_] at ge178_1; rw [hvc_] at ul178_1; have HL178_1 := zK (show Kd.V (Kd.int .i64) 3 _ w.heap.size _ _ ((rd_T57 q u).f1) from Kd.V_mk ul178_1 ge178_1); clear hva_ hvn_ hvc_ ge178_1 ul178_1; clear hcc178 hce178; have M0 := zK U; have N0 := zK T; clear U T; have O0 := zK a0; have R0 := zK X; clear a0 X; replace g0 := eq_true g0; replace i0 := eq_true i0; have ea_ := z5 (by first | exact o0.symm.trans M | exact S0.symm.trans T0); injection ea_ with ea_ en_ ec_; subst ea_; subst ec_; clear en_; have ea_ := z5 (by first | exact p0.symm.trans O | exact U0.symm.trans V0); injection ea_ with ea_ en_ ec_; subst ea_; subst ec_; clear en_; have j0 : 0 ≤ (y : Int) := z3; have m0 : y < (q.length : Int) := z3; obtain ⟨G0, x1, y1, B1, C1, L0, y0, A0, b0, c0, d0, e0⟩ := at_T57 (Kd.V_reads' l.out).2.2 y j0 m0; obtain rfl : D0 = G0 := (by injection L0); obtain ⟨ce179, hce179, hMe179, hcc179⟩ := Kd.V_get l.out z57 y j0 (by first | exact m0 | exact z3 | (have e_ := (Kd.V_reads' l.out).1; omega)); obtain ⟨ua179_0, uc179_0, ua179_1, uc179_1, rfl, ul179_0, ge179_0, ul179_1, ge179_1⟩ := k57_openF hMe179; have B := hcc179 0 _ rfl; rw [Nat.add_zero] at B; replace B := z5 (B.symm.trans y0); injection B with hva_ hvn_ hvc_; rw [hva_] at ge179_0; rw [hvc_] at ul179_0; have HL179_0 := zK (show Kd.V (Kd.int .i64) 3 _ w.heap.size _ _ ((rd_T57 q y).f0) from Kd.V_mk ul179_0 ge179_0); clear hva_ hvn_ hvc_ ge179_0 ul179_0; have E := hcc179 1 _ rfl; rw [add_field _ _ 1 (by omega)] at E; replace E := z5 (E.symm.trans A0); injection E with hva_ hvn_ hvc_; rw [hva_] at ge179_1; rw [hvc_] at ul179_1; have HL179_1 := zK (show Kd.V (Kd.int .i64) 3 _ w.heap.size _ _ ((rd_T57 q y).f1) from Kd.V_mk ul179_1 ge179_1); clear hva_ hvn_ hvc_ ge179_1 ul179_1; clear hcc179 hce179; have X0 := zK c0; have a1 := zK b0; clear c0 b0; have b1 := zK e0; have d1 := zK d0; clear e0 d0; replace j0 := eq_true j0; replace m0 := eq_true m0)); try go_wp2_with (first | (go_at_call 58; (with_reducible refine (spec_l21Ends.calls k1 _ _ l1 _ _ ((rd_T57 q u).f0) true _ ?side1 ?side2 ?side3 ?side4 A6.out).mono ?_); (case side1 => exact zS i1); (case side2 => exact j1.out); (case side3 => repeat (first | exact (by repeat (first | (with_reducible exact I.out) | (with_reducible refine Kd.C_alloc ?_ _) | (with_reducible refine Kd.C_drewN ?_ _) | (with_reducible refine Kd.C_drew ?_) | exact I.out)) | (with_reducible refine Kd.C_alloc ?_ _) | (with_reducible refine Kd.C_drewN ?_ _) | (with_reducible refine Kd.C_drew ?_))); (case side4 => exact n0.out); rintro e w' ⟨rfl, ⟨nd, rfl⟩⟩; (try first | exact ⟨rfl, _, World.drewN_drewN _ _ _⟩ | exact ⟨rfl, _, Eq.trans (World.drewN_drewN _ _ _) (congrArg (World.drewN _) (Nat.add_assoc _ _ _))⟩); have g0 : 0 ≤ (u : Int) := z3; have i0 : u < (q.length : Int) := z3; obtain ⟨F0, p1, q1, s1, t1, J0, M, O, T, U, X, a0⟩ := at_T57 (Kd.V_reads' l.out).2.2 u g0 i0; obtain rfl : D0 = F0 := (by injection J0); obtain ⟨ce178, hce178, hMe178, hcc178⟩ := Kd.V_get l.out z57 u g0 (by first | exact i0 | exact z3 | (have e_ := (Kd.V_reads' l.out).1; omega)); obtain ⟨ua178_0, uc178_0, ua178_1, uc178_1, rfl, ul178_0, ge178_0, ul178_1, ge178_1⟩ := k57_openF hMe178; have z := hcc178 0 _ rfl; rw [Nat.add_zero] at z; replace z := z5 (z.symm.trans M); injection z with hva_ hvn_ hvc_; rw [hva_] at ge178_0; rw [hvc_] at ul178_0; have HL178_0 := zK (show Kd.V (Kd.int .i64) 3 _ w.heap.size _ _ ((rd_T57 q u).f0) from Kd.V_mk ul178_0 ge178_0); clear hva_ hvn_ hvc_ ge178_0 ul178_0; have A := hcc178 1 _ rfl; rw [add_field _ _ 1 (by omega)] at A; replace A := z5 (A.symm.trans O); injection A with hva_ hvn_ hvc_; rw [hva_] at ge178_1; rw [hvc_] at ul178_1; have HL178_1 := zK (show Kd.V (Kd.int .i64) 3 _ w.heap.size _ _ ((rd_T57 q u).f1) from Kd.V_mk ul178_1 ge178_1); clear hva_ hvn_ hvc_ ge178_1 ul178_1; clear hcc178 hce178; have M0 := zK U; have N0 := zK T; clear U T; have O0 := zK a0; have R0 := zK X; clear a0 X; replace g0 := eq_true g0; replace i0 := eq_true i0; have ea_ := z5 (by first | exact o0.symm.trans M | exact S0.symm.trans T0); injection ea_ with ea_ en_ ec_; subst ea_; subst ec_; clear en_; have ea_ := z5 (by first | exact p0.symm.trans O | exact U0.symm.trans V0); injection ea_ with ea_ en_ ec_; subst ea_; subst ec_; clear en_; have j0 : 0 ≤ (y : Int) := z3; have m0 : y < (q.length : Int) := z3; obtain ⟨G0, x1, y1, B1, C1, L0, y0, A0, b0, c0, d0, e0⟩ := at_T57 (Kd.V_reads' l.out).2.2 y j0 m0; obtain rfl : D0 = G0 := (by injection L0); obtain ⟨ce179, hce179, hMe179, hcc179⟩ := Kd.V_get l.out z57 y j0 (by first | exact m0 | exact z3 | (have e_ := (Kd.V_reads' l.out).1; omega)); obtain ⟨ua179_0, uc179_0, ua179_1, uc179_1, rfl, ul179_0, ge179_0, ul179_1, ge179_1⟩ := k57_openF hMe179; have B := hcc179 0 _ rfl; rw [Nat.add_zero] at B; replace B := z5 (B.symm.trans y0); injection B with hva_ hvn_ hvc_; rw [hva_] at ge179_0; rw [hvc_] at ul179_0; have HL179_0 := zK (show Kd.V (Kd.int .i64) 3 _ w.heap.size _ _ ((rd_T57 q y).f0) from Kd.V_mk ul179_0 ge179_0); clear hva_ hvn_ hvc_ ge179_0 ul179_0; have E := hcc179 1 _ rfl; rw [add_field _ _ 1 (by omega)] at E; replace E := z5 (E.symm.trans A0); injection E with hva_ hvn_ hvc_; rw [hva_] at ge179_1; rw [hvc_] at ul179_1; have HL179_1 := zK (show Kd.V (Kd.int .i64) 3 _ w.heap.size _ _ ((rd_T57 q y).f1) from Kd.V_mk ul179_1 ge179_1); clear hva_ hvn_ hvc_ ge179_1 ul179_1; clear hcc179 hce179; have X0 := zK c0; have a1 := zK b0; clear c0 b0; have b1 := zK e0; have d1 := zK d0; clear e0 d0; replace j0 := eq_true j0; replace m0 := eq_true m0)))
 go_roundg k1
 case measure => have := J1.out; omega
 case rel => exact ⟨(y), (wrap64 (u + 1)), zR, zR, H', ⟨by have := J1.out; omega⟩, ⟨zkV l⟩, ⟨zM E0⟩, ⟨zB⟩⟩
def spec_Weights.f (k : Nat) (l : Int) (q : List (S57)) (A : List Int) : Option (List Int) := (spec_LmOk.f k l q).bind fun u => (if u = true then (if (A.length : Int) > 2000 then (some (([] : List Int))) else ((spec_l21Of.f k l q A).bind fun y => ((spec_l3Ints.f y).bind fun z => (some z)))) else (some (([] : List Int))))
theorem spec_Weights.calls (k) (u) (E) (I) (q : List (S57)) (A1) (c1) (M : List Int) (r : List Int) (w) (f0 : Kd.C k57 w E q.length q) (g0 : q.length ≤ I) (y0 : Kd.C (Kd.int .i64) w A1 M.length M) (A0 : M.length ≤ c1) (h : spec_Weights.f k u q M = some r) :
 Calls Try.prog 19 #[.agg #[.int .i64 u, .slice E q.length I], .slice A1 M.length c1] w fun e w' => ∃ v0_ : Value, e = .returned (v0_) ∧ Kd.R (Kd.int .i64) 3 w' w.heap.size (fun _ => True) v0_ r ∧ Below w.heap.size w w' := by
 have n1 := Try.underlying29
 have a0 := zK f0
 have b0 := zK g0
 clear f0 g0
 have a1 := zK y0
 have b1 := zK A0
 clear y0 A0
 have HB := zK (Below.refl w.heap.size w)
 have H : ((spec_LmOk.f k u q).bind fun d0 => (if d0 = true then (if (M.length : Int) > 2000 then (some (([] : List Int))) else ((spec_l21Of.f k u q M).bind fun O => ((spec_l3Ints.f O).bind fun e0 => (some e0)))) else (some (([] : List Int))))) = some r := h
 clear h
 replace H := z6 H
 obtain ⟨d0, B0, H⟩ := H
 have A3 := zK B0
 clear B0
 rcases zN (d0 = true) with c4 | c4
 replace c4 := Bool.eq_false_iff.mpr c4
 subst c4
 rw [if_neg (show ¬ (false = true) by decide)] at H
 obtain ⟨E0, J⟩ : ∃ y_ : List Int, y_ = (([] : List Int)) := ⟨_, rfl⟩
 replace H : (some E0) = some r := by first | (rw [J]; with_reducible exact H) | (have T := (Option.bind_some _ _).symm.trans H; rw [J]; with_reducible exact T) | (have T := (Option.bind_some _ _).symm.trans H; with_reducible exact T) | with_reducible exact H | (rw [J]; exact H) | exact H
 have Ny192 := zK J
 clear J
 obtain rfl := z5 H
 rotate_left
 subst c4
 rw [if_pos rfl] at H
 by_cases c5 : (M.length : Int) > 2000
 · rw [if_pos c5] at H
   have F0 := z1 c5
   have G0 : decide (2000 < M.length) = true := z1 (by omega)
   clear c5
   obtain ⟨I0, L⟩ : ∃ y_ : List Int, y_ = (([] : List Int)) := ⟨_, rfl⟩
   replace H : (some I0) = some r := by first | (rw [L]; with_reducible exact H) | (have T := (Option.bind_some _ _).symm.trans H; rw [L]; with_reducible exact T) | (have T := (Option.bind_some _ _).symm.trans H; with_reducible exact T) | with_reducible exact H | (rw [L]; exact H) | exact H
   have Ny183 := zK L
   clear L
   obtain rfl := z5 H
   go_enter Try.func19, Try.ntmps19
   go_wp2_with (first | ((with_reducible refine gd 2 rfl ?_); (try (refine gate_guard (by rfl) ?_; dsimp only)); refine zJ 2 #[.int .i64 u, .slice E q.length I] 29 ?_; intro i0 hg w6 hbox hb; have y := z8 hb; have z := zK (hbox); have A := z9 hg; have c0 := z9 hg; revert y z A c0; clear HB; intro HB l j0 q0; clear hb hbox hg; obtain ⟨e1, f1, g1, i1⟩ := zc2 l) | ((with_reducible refine gc 8 rfl ?_); refine zF 6 Try.func8 #[.agg #[.int .i64 u, .slice E q.length I]] rfl zL ?_; refine (spec_LmOk.calls k u _ _ q true _ (zS a0) b0.out A3.out).mono ?_; rintro e w8 ⟨rfl, hb⟩; refine ⟨_, rfl, ?_⟩; have y := z7 l hb; have z := z8 hb; revert y z; clear l HB; intro l HB) | ((with_reducible refine gd 13 rfl ?_); (try (refine gate_guard (by rfl) ?_; dsimp only)); refine Kd.R_lit (Kd.int .i64) _ 3 ?hg (N := 13) ?hd (xs := ([] : List Int)) (inner := []) (ok := fun _ => True) (okp := fun _ => True) ?hr ?hp (fun _ hk => hk) trivial (Below.refl _ _) (Nat.le_refl _) (by simp) ?_; (case hd => rfl); (case hg => rfl); (case hr => first | (go_simp; done) | (go_simp; rfl)); (case hp => exact (Reps.none _ _)); intro v184 w9 U hb hg_ hnew_; clear hg_ hnew_; (first | rw [← Ny183.out] at U | (simp only [Int.reduceToNat] at U; rw [← Ny183.out] at U)); have y := zK (Kd.R_lower U (zz zB)); have z := z7 l hb; have A := z8 hb; revert y z A; clear l HB; intro s0 l HB; clear hb U))
   go_ret
   exact ⟨_, zE, zkR s0, zB⟩
 rw [if_neg c5] at H
 have F0 := z2 c5
 have G0 : decide (2000 < M.length) = false := z2 (by omega)
 clear c5
 replace H := z6 H
 obtain ⟨O, o0, H⟩ := H
 have j1 := zK o0
 clear o0
 replace H := z6 H
 obtain ⟨e0, p0, H⟩ := H
 have m1 := zK p0
 clear p0
 obtain rfl := z5 H
 all_goals go_enter Try.func19, Try.ntmps19
 all_goals go_wp2_with (first | ((with_reducible refine gd 2 rfl ?_); (try (refine gate_guard (by rfl) ?_; dsimp only)); refine zJ 2 #[.int .i64 u, .slice E q.length I] 29 ?_; intro i0 hg o1 hbox hb; have y := z8 hb; have z := zK (hbox); have A := z9 hg; have c0 := z9 hg; revert y z A c0; clear HB; intro HB l j0 q0; clear hb hbox hg; obtain ⟨N0, O0, R0, S0⟩ := zc2 l) | ((with_reducible refine gc 8 rfl ?_); refine zF 6 Try.func8 #[.agg #[.int .i64 u, .slice E q.length I]] rfl zL ?_; refine (spec_LmOk.calls k u _ _ q _ _ (zS a0) b0.out A3.out).mono ?_; rintro e p1 ⟨rfl, hb⟩; refine ⟨_, rfl, ?_⟩; have y := z7 l hb; have z := z8 hb; revert y z; clear l HB; intro l HB; obtain ⟨T0, U0, V0, X0⟩ := zc2 l) | ((with_reducible refine gc 44 rfl ?_); refine zF 16 Try.func44 #[.agg #[.int .i64 u, .slice E q.length I], .slice A1 M.length c1] rfl zL ?_; refine (spec_l21Of.calls k u (fun k_ => k_ < w.heap.size) _ _ q _ _ M O _ (Kd.V_mk b0.out (Kd.F_below (Kd.C_F k57_heap a0.out) zB)) (zS a1) b1.out j1.out).mono ?_; rintro e q1 ⟨v187, rfl, l0, hb⟩; refine ⟨_, rfl, ?_⟩; have y := zK (Kd.V_lower (Kd.V_mono (ok' := fun k_ => k_ ≠ i0) l0 (fun k_ hk_ => Or.elim hk_ (fun hs_ => fun e_ => Nat.not_le.2 hs_ (by rw [e_]; exact j0.out)) (fun hn_ => (Kd.freshB (zM l) k_ hn_)))) (zz zB)); have z := z7 l hb; have A := z8 hb; revert y z A; clear l HB; intro B l HB; obtain ⟨J0, L0, M0⟩ := Kd.V_slice B.out; subst M0) | ((with_reducible refine gc 43 rfl ?_); refine zF 17 Try.func43 #[.slice J0 O.length L0] rfl zL ?_; refine (spec_l3Ints.calls _ _ O e0 _ (zC (Kd.V_reads' B.out).2.2) ((Kd.V_reads' B.out).2.1) m1.out).mono ?_; rintro e s1 ⟨v190, rfl, l0, hb⟩; refine ⟨_, rfl, ?_⟩; have y := zK (Kd.V_elder' (zkV B) (Kd.R_base l0) hb); have z := zK (Kd.R_lower l0 (zz zB)); have A := z7 l hb; have c0 := z8 hb; revert y z A c0; clear B l HB; intro B t0 l HB) | ((with_reducible refine gd 13 rfl ?_); (try (refine gate_guard (by rfl) ?_; dsimp only)); refine Kd.R_lit (Kd.int .i64) _ 3 ?hg (N := 13) ?hd (xs := ([] : List Int)) (inner := []) (ok := fun _ => True) (okp := fun _ => True) ?hr ?hp (fun _ hk => hk) trivial (Below.refl _ _) (Nat.le_refl _) (by simp) ?_; (case hd => rfl); (case hg => rfl); (case hr => first | (go_simp; done) | (go_simp; rfl)); (case hp => exact (Reps.none _ _)); intro v193 t1 X hb hg_ hnew_; clear hg_ hnew_; (first | rw [← Ny192.out] at X | (simp only [Int.reduceToNat] at X; rw [← Ny192.out] at X)); have y := zK (Kd.R_lower X (zz zB)); have z := z7 l hb; have A := z8 hb; revert y z A; clear l HB; intro x0 l HB; clear hb X))
 · go_ret
   exact ⟨_, zE, zkR t0, zB⟩
 all_goals go_ret
 all_goals exact ⟨_, zE, zkR x0, zB⟩
def impl_within.f (l : Int) (q : Int) (u : Int) : Option (Bool) := if l ≥ q then (some (decide (l ≤ u))) else (some false)
theorem impl_within.calls (q) (u) (y) (r : Bool) (w) (h : impl_within.f q u y = some r) :
 Calls Try.prog 32 #[.int .i64 q, .int .i64 u, .int .i64 y] w fun e w' => e = .returned (.bool r) ∧ Drawn0 w w' := by
 have H : (if q ≥ u then (some (decide (q ≤ y))) else (some false)) = some r := h
 clear h
 by_cases l : q ≥ u
 · rw [if_pos l] at H
   have z := z1 l
   clear l
   obtain rfl := z5 H
   go_enter Try.func32, Try.ntmps32
   go_wp2
   go_ret
   exact ⟨zR, zD⟩
 rw [if_neg l] at H
 have z := z2 l
 clear l
 obtain rfl := z5 H
 go_enter Try.func32, Try.ntmps32
 go_wp2
 go_ret
 exact ⟨zR, zD⟩
def impl_Row_51.f (q : List (S57)) : Option ((List (S57))) := (some (([] : List (S57)) : List (S57))).bind fun l => (if l.length + q.length < 2932031007402 then (some (l ++ q)) else (none))
theorem impl_Row_51.calls_some (q : Nat → Prop) (U) (X) (z : List (S57)) (r : List (S57)) (w) (b0 : Kd.V k57 57 w w.heap.size (fun k_ => q k_) (.slice U z.length X) z) (h : impl_Row_51.f z = some r) (hA0 : U ≠ none) :
 Calls Try.prog 51 #[.slice U z.length X] w fun e w' => ∃ v0_ : Value, e = .returned (v0_) ∧ Kd.N k57 57 w' w.heap.size (fun k_ => (q k_ ∨ w.heap.size ≤ k_)) v0_ r ∧ Below w.heap.size w w' := by
 obtain ⟨d0, rfl⟩ := Option.ne_none_iff_exists'.1 hA0
 clear hA0
 have hq := fun (w : World) (a : Option Addr) (n c n' c' : Nat) => Lib.run_eql_slice_nil w 27 57 a n c n' c' Try.underlying27
 have A := zK (show Kd.V k57 57 w w.heap.size (fun k_ => (q k_ ∨ w.heap.size ≤ k_)) (.slice (some d0) z.length X) z from Kd.V_mono b0 (fun k_ hk => .inl hk))
 have HB := zK (Below.refl w.heap.size w)
 have H : ((some (([] : List (S57)) : List (S57))).bind fun l => (if l.length + z.length < 2932031007402 then (some (l ++ z)) else (none))) = some r := h
 clear h
 obtain ⟨l, u⟩ : ∃ y_ : List (S57), y_ = (([] : List (S57))) := ⟨_, rfl⟩
 replace H : (if l.length + z.length < 2932031007402 then (some (l ++ z)) else (none)) = some r := by first | (rw [u]; with_reducible exact H) | (have B := (Option.bind_some _ _).symm.trans H; rw [u]; with_reducible exact B) | (have B := (Option.bind_some _ _).symm.trans H; with_reducible exact B) | with_reducible exact H | (rw [u]; exact H) | exact H
 have Ny195 := zK u
 clear u
 by_cases O : l.length + z.length < 2932031007402
 rotate_left
 · rw [if_neg O] at H
   exact absurd H (by simp)
 rw [if_pos O] at H
 have LMc2 := zK O
 clear O
 obtain ⟨a0, y⟩ : ∃ y_ : List (S57), y_ = (l ++ z) := ⟨_, rfl⟩
 replace H : (some a0) = some r := by first | (rw [y]; with_reducible exact H) | (have B := (Option.bind_some _ _).symm.trans H; rw [y]; with_reducible exact B) | (have B := (Option.bind_some _ _).symm.trans H; with_reducible exact B) | with_reducible exact H | (rw [y]; exact H) | exact H
 have Ny198 := zK y
 clear y
 obtain rfl := z5 H
 go_enter Try.func51, Try.ntmps51
 go_wp2_with (first | ((with_reducible refine gd 5 rfl ?_); refine Kd.N_lit k57 _ 57 ?hg (N' := 5) ?hd (xs := ([] : List (S57))) (inner := []) (ok := (fun k_ => (q k_ ∨ w.heap.size ≤ k_))) (okp := (fun k_ => (q k_ ∨ w.heap.size ≤ k_))) ?hr ?hp (fun _ hk => hk) ((show ∀ k_, w.heap.size ≤ k_ → (fun k_ => (q k_ ∨ w.heap.size ≤ k_)) k_ from fun k_ hk => (.inr (Nat.le_trans (zz zB) hk))) _ (Nat.le_refl _)) (Below.refl _ _) (Nat.le_refl _) (by simp) ?_; (case hd => rfl); (case hg => rfl); (case hr => first | (go_simp; done) | (go_simp; rfl)); (case hp => exact (Reps.none _ _)); intro v196 w3 E hb hg_ hnew_; clear hg_ hnew_; (first | rw [← Ny195.out] at E | (simp only [Int.reduceToNat] at E; rw [← Ny195.out] at E)); have J := zK (Kd.V_elder' (zkV A) (Kd.N_base E) hb); have L := zK (Kd.N_lower E (zz zB)); have M := z8 hb; revert J L M; clear A HB; intro A I HB; clear hb E) | ((with_reducible refine gate_builtin (b := .append) (xs := #[.tmp 5, .tmp 6]) rfl ?_); at_builtin; refine Kd.N_append_rows k57 (w0 := w) w.heap.size rfl (.tmp 5) (.tmp 6) 27 57 (.agg #[(.slice none 0 0), (.slice none 0 0)]) 48 rfl Try.underlying27 info57 rfl (by decide) (by omega) v196 l z _ _ _ (fun k_ => (q k_ ∨ w.heap.size ≤ k_)) (fun k_ => ((fun k_ => (q k_ ∨ w.heap.size ≤ k_))) k_ ∧ some k_ ≠ (v196 : Value).ownBlock) rfl rfl ?aO ?aR (fun _ hk => hk) ?aF ?aB ?aS ?aL ?_; (case aR => exact (by skip; exact Kd.V_F (Kd.V_mono (ok' := (fun k_ => ((fun k_ => (q k_ ∨ w.heap.size ≤ k_))) k_ ∧ some k_ ≠ (v196 : Value).ownBlock)) (A.out) (fun k_ hk => ⟨hk.1, hk.2⟩)))); (case aB => exact zB); (case aF => exact (fun k_ hk => (.inr (Nat.le_trans (zz zB) hk)))); (case aO => exact (zkN I)); (case aS => exact (zz zB)); (case aL => have := LMc2.out; omega); intro v199 w5 ho hb hg hat; rw [← Ny198.out] at ho; have J := zK (Kd.V_afterv (ok := (fun k_ => (q k_ ∨ w.heap.size ≤ k_))) (zkV A) hg hat); have L := zK (hb); have M := zK (ho); revert J L M; clear A HB I; intro A HB T; clear ho hb hg hat))
 go_ret
 exact ⟨_, zE, zkN T, zB⟩
theorem impl_Row_51.calls (q : Nat → Prop) (y) (z) (l : List (S57)) (r : List (S57)) (w) (u : Kd.V k57 57 w w.heap.size (fun k_ => q k_) (.slice y l.length z) l) (h : impl_Row_51.f l = some r) :
 Calls Try.prog 51 #[.slice y l.length z] w fun e w' => ∃ v0_ : Value, e = .returned (v0_) ∧ Kd.N k57 57 w' w.heap.size (fun k_ => (q k_ ∨ w.heap.size ≤ k_)) v0_ r ∧ Below w.heap.size w w' := by
 rcases y with _ | B
 · obtain rfl : l = [] := by
    rcases Nat.eq_zero_or_pos l.length with A | A
    · exact List.eq_nil_of_length_eq_zero A
    · obtain ⟨_, h1, _⟩ := (by first | exact E | exact (Kd.V_reads' u).2.2 : Kd.C k57 w none l.length l).2.2 A
      cases h1
   obtain rfl : r = [] := by simp [impl_Row_51.f] at h; first | exact h.symm | exact h
   have hq := fun (w : World) (a : Option Addr) (n c n' c' : Nat) => Lib.run_eql_slice_nil w 27 57 a n c n' c' Try.underlying27
   go_enter Try.func51, Try.ntmps51
   go_wp2
   go_ret
   exact ⟨_, rfl, (by first | exact Kd.R_nil _ _ _ _ _ | exact Kd.N_nil _ _ _ _ _ | exact Kd.V_nil _ _ _ _ _ | exact Kd.Q_nil _ _ _ _ _ | exact Kd.S_nil _ _ _ _ _), Below.refl _ _⟩
 · exact impl_Row_51.calls_some q (some B) z l r w u h (by simp)
-- NOT PRINTED: function 65 (impl_Row_65)
-- NOT PRINTED: function 75 (impl_Row_75)
-- NOT PRINTED: function 66 (impl_Row_66)
end Go.Proofs.Ytdlhmhgpafegpaa.PFnExactWeights
