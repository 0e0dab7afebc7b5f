-- Printed out of the translation by this session's own turned copy of a printer; Lean checks it.
import Derived.Test.YtdlhmhgpafegpaaPFnExactPagesOfx0
import Derived.Test.YtdlhmhgpafegpaaPFnExactPagesOfx3
namespace Go.Proofs.Ytdlhmhgpafegpaa.PFnExactPagesOf
open Go.RowKit Go.Proofs.YtdlhmhgpafegpaaW.PrintWords Go.Proofs.YtdlhmhgpafegpaaW.PrintLast Go.Proofs.YtdlhmhgpafegpaaW.PrintMore
attribute [local go_sem] max2_int min2_int max_two min_two max_three min_three max_four min_four
set_option linter.unusedVariables false
set_option linter.unusedSimpArgs false
set_option maxHeartbeats 8000000
set_option maxRecDepth 100000
mutual
def spec_LmOk.l0 : Nat → Bool → Int → Int → List (S57) → Option (Bool)
 | 0, _, _, _, _ => none
 | k + 1, A, u, q, l => if u < (l.length : Int) then (if 0 ≤ u then (if (((rd_T57 l u).f0).length : Int) > 4 then (some false) else ((spec_l21Tokens.f k ((rd_T57 l u).f0) q).bind fun y => (if y = true then (if (((rd_T57 l u).f1).length : Int) = q then ((spec_l21Weights.f k ((rd_T57 l u).f1)).bind fun z => (if z = true then (spec_LmOk.l1 k A u 0 q l ((rd_T57 l u).f0) ((rd_T57 l u).f1)) else (some false))) else (some false)) else (some false)))) else (none)) else (some A)
def spec_LmOk.l1 : Nat → Bool → Int → Int → Int → List (S57) → List Int → List Int → Option (Bool)
 | 0, _, _, _, _, _, _, _ => none
 | k + 1, E, A, z, q, l, u, y => if z < A then (if 0 ≤ z then (if z < (l.length : Int) then ((spec_l3SameInts.f k ((rd_T57 l z).f0) u).bind fun B => (if B = true then (some false) else (spec_LmOk.l1 k E A (wrap64 (z + 1)) q l u y))) else (none)) else (none)) else (if E = true then (spec_LmOk.l0 k true (wrap64 (A + 1)) q l) else (spec_LmOk.l0 k ((u.length : Int) == 0) (wrap64 (A + 1)) q l))
end
def spec_LmOk.f (k : Nat) (l : Int) (q : List (S57)) : Option (Bool) := (spec_l5In.f l 1 64).bind fun u => (if u = true then (if (q.length : Int) > 500 then (some false) else (spec_LmOk.l0 k false 0 l q)) else (some false))
theorem spec_LmOk.calls (k) (I) (F0) (t0) (q : List (S57)) (r : Bool) (w) (b3 : Kd.C k57 w F0 q.length q) (d3 : q.length ≤ t0) (h : spec_LmOk.f k I q = some r) :
 Calls Try.prog 8 #[.agg #[.int .i64 I, .slice F0 q.length t0]] w fun e w' => e = .returned (.bool r) ∧ Below w.heap.size w w' := by
 have I5 := Try.underlying29
 have J5 := Try.underlying57
 have S0 := zK b3
 have x5 := zK d3
 clear b3 d3
 have HB := zK (Below.refl w.heap.size w)
 have H : ((spec_l5In.f I 1 64).bind fun T2 => (if T2 = true then (if (q.length : Int) > 500 then (some false) else (spec_LmOk.l0 k false 0 I q)) else (some false))) = some r := h
 clear h
 replace H := z6 H
 obtain ⟨T2, g4, H⟩ := H
 have A2 := zK g4
 clear g4
 by_cases c3 : T2 = true
 rotate_left
 · replace c3 := Bool.eq_false_iff.mpr c3
   subst c3
   rw [if_neg (show ¬ (false = true) by decide)] at H
   obtain rfl := z5 H
   go_enter Try.func8, Try.ntmps8
   go_wp2_with (first | ((with_reducible refine gd 1 rfl ?_); (try (refine gate_guard (by rfl) ?_; dsimp only)); refine zJ 1 #[.int .i64 I, .slice F0 q.length t0] 29 ?_; intro A0 hg i4 hbox hb; have J := z8 hb; have L := zK (hbox); have M := z9 hg; have O := z9 hg; revert J L M O; clear HB; intro HB l G0 I0; clear hb hbox hg; obtain ⟨M1, N1, O1, R1⟩ := zc2 l) | (go_at_call 27; (with_reducible refine (spec_l5In.calls I 1 64 false _ A2.out).mono ?_); rintro e w' ⟨rfl, ⟨nd, rfl⟩⟩; (try first | exact ⟨rfl, _, World.drewN_drewN _ _ _⟩ | exact ⟨rfl, _, Eq.trans (World.drewN_drewN _ _ _) (congrArg (World.drewN _) (Nat.add_assoc _ _ _))⟩)))
   repeat (go_quiet (first | ((with_reducible refine gd 1 rfl ?_); (try (refine gate_guard (by rfl) ?_; dsimp only)); refine zJ 1 #[.int .i64 I, .slice F0 q.length t0] 29 ?_; intro A0 hg i4 hbox hb; have J := z8 hb; have L := zK (hbox); have M := z9 hg; have O := z9 hg; revert J L M O; clear HB; intro HB l G0 I0; clear hb hbox hg; obtain ⟨M1, N1, O1, R1⟩ := zc2 l) | (go_at_call 27; (with_reducible refine (spec_l5In.calls I 1 64 false _ A2.out).mono ?_); rintro e w' ⟨rfl, ⟨nd, rfl⟩⟩; (try first | exact ⟨rfl, _, World.drewN_drewN _ _ _⟩ | exact ⟨rfl, _, Eq.trans (World.drewN_drewN _ _ _) (congrArg (World.drewN _) (Nat.add_assoc _ _ _))⟩))); try go_wp2_with (first | ((with_reducible refine gd 1 rfl ?_); (try (refine gate_guard (by rfl) ?_; dsimp only)); refine zJ 1 #[.int .i64 I, .slice F0 q.length t0] 29 ?_; intro A0 hg i4 hbox hb; have J := z8 hb; have L := zK (hbox); have M := z9 hg; have O := z9 hg; revert J L M O; clear HB; intro HB l G0 I0; clear hb hbox hg; obtain ⟨M1, N1, O1, R1⟩ := zc2 l) | (go_at_call 27; (with_reducible refine (spec_l5In.calls I 1 64 false _ A2.out).mono ?_); rintro e w' ⟨rfl, ⟨nd, rfl⟩⟩; (try first | exact ⟨rfl, _, World.drewN_drewN _ _ _⟩ | exact ⟨rfl, _, Eq.trans (World.drewN_drewN _ _ _) (congrArg (World.drewN _) (Nat.add_assoc _ _ _))⟩))))
   go_ret
   exact ⟨zE, zB⟩
 subst c3
 rw [if_pos rfl] at H
 by_cases c4 : (q.length : Int) > 500
 · rw [if_pos c4] at H
   have U2 := z1 c4
   have V2 : decide (500 < q.length) = true := z1 (by omega)
   clear c4
   obtain rfl := z5 H
   go_enter Try.func8, Try.ntmps8
   go_wp2_with (first | ((with_reducible refine gd 1 rfl ?_); (try (refine gate_guard (by rfl) ?_; dsimp only)); refine zJ 1 #[.int .i64 I, .slice F0 q.length t0] 29 ?_; intro A0 hg w5 hbox hb; have J := z8 hb; have L := zK (hbox); have M := z9 hg; have O := z9 hg; revert J L M O; clear HB; intro HB l G0 I0; clear hb hbox hg; obtain ⟨b1, d1, e1, g1⟩ := zc2 l) | (go_at_call 27; (with_reducible refine (spec_l5In.calls I 1 64 true _ A2.out).mono ?_); rintro e w' ⟨rfl, ⟨nd, rfl⟩⟩; (try first | exact ⟨rfl, _, World.drewN_drewN _ _ _⟩ | exact ⟨rfl, _, Eq.trans (World.drewN_drewN _ _ _) (congrArg (World.drewN _) (Nat.add_assoc _ _ _))⟩)))
   repeat (go_quiet (first | ((with_reducible refine gd 1 rfl ?_); (try (refine gate_guard (by rfl) ?_; dsimp only)); refine zJ 1 #[.int .i64 I, .slice F0 q.length t0] 29 ?_; intro A0 hg w5 hbox hb; have J := z8 hb; have L := zK (hbox); have M := z9 hg; have O := z9 hg; revert J L M O; clear HB; intro HB l G0 I0; clear hb hbox hg; obtain ⟨b1, d1, e1, g1⟩ := zc2 l) | (go_at_call 27; (with_reducible refine (spec_l5In.calls I 1 64 true _ A2.out).mono ?_); rintro e w' ⟨rfl, ⟨nd, rfl⟩⟩; (try first | exact ⟨rfl, _, World.drewN_drewN _ _ _⟩ | exact ⟨rfl, _, Eq.trans (World.drewN_drewN _ _ _) (congrArg (World.drewN _) (Nat.add_assoc _ _ _))⟩))); try go_wp2_with (first | ((with_reducible refine gd 1 rfl ?_); (try (refine gate_guard (by rfl) ?_; dsimp only)); refine zJ 1 #[.int .i64 I, .slice F0 q.length t0] 29 ?_; intro A0 hg w5 hbox hb; have J := z8 hb; have L := zK (hbox); have M := z9 hg; have O := z9 hg; revert J L M O; clear HB; intro HB l G0 I0; clear hb hbox hg; obtain ⟨b1, d1, e1, g1⟩ := zc2 l) | (go_at_call 27; (with_reducible refine (spec_l5In.calls I 1 64 true _ A2.out).mono ?_); rintro e w' ⟨rfl, ⟨nd, rfl⟩⟩; (try first | exact ⟨rfl, _, World.drewN_drewN _ _ _⟩ | exact ⟨rfl, _, Eq.trans (World.drewN_drewN _ _ _) (congrArg (World.drewN _) (Nat.add_assoc _ _ _))⟩))))
   go_ret
   exact ⟨zE, zB⟩
 rw [if_neg c4] at H
 have U2 := z2 c4
 have V2 : decide (500 < q.length) = false := z2 (by omega)
 clear c4
 have H' := zK H
 clear H
 go_enter Try.func8, Try.ntmps8
 go_wp2_with (first | ((with_reducible refine gd 1 rfl ?_); (try (refine gate_guard (by rfl) ?_; dsimp only)); refine zJ 1 #[.int .i64 I, .slice F0 q.length t0] 29 ?_; intro A0 hg w7 hbox hb; have J := z8 hb; have L := zK (hbox); have M := z9 hg; have O := z9 hg; revert J L M O; clear HB; intro HB l G0 I0; clear hb hbox hg; obtain ⟨i1, j1, m1, n1⟩ := zc2 l) | (go_at_call 27; (with_reducible refine (spec_l5In.calls I 1 64 true _ A2.out).mono ?_); rintro e w' ⟨rfl, ⟨nd, rfl⟩⟩; (try first | exact ⟨rfl, _, World.drewN_drewN _ _ _⟩ | exact ⟨rfl, _, Eq.trans (World.drewN_drewN _ _ _) (congrArg (World.drewN _) (Nat.add_assoc _ _ _))⟩)))
 repeat (go_quiet (first | ((with_reducible refine gd 1 rfl ?_); (try (refine gate_guard (by rfl) ?_; dsimp only)); refine zJ 1 #[.int .i64 I, .slice F0 q.length t0] 29 ?_; intro A0 hg w7 hbox hb; have J := z8 hb; have L := zK (hbox); have M := z9 hg; have O := z9 hg; revert J L M O; clear HB; intro HB l G0 I0; clear hb hbox hg; obtain ⟨i1, j1, m1, n1⟩ := zc2 l) | (go_at_call 27; (with_reducible refine (spec_l5In.calls I 1 64 true _ A2.out).mono ?_); rintro e w' ⟨rfl, ⟨nd, rfl⟩⟩; (try first | exact ⟨rfl, _, World.drewN_drewN _ _ _⟩ | exact ⟨rfl, _, Eq.trans (World.drewN_drewN _ _ _) (congrArg (World.drewN _) (Nat.add_assoc _ _ _))⟩))); try go_wp2_with (first | ((with_reducible refine gd 1 rfl ?_); (try (refine gate_guard (by rfl) ?_; dsimp only)); refine zJ 1 #[.int .i64 I, .slice F0 q.length t0] 29 ?_; intro A0 hg w7 hbox hb; have J := z8 hb; have L := zK (hbox); have M := z9 hg; have O := z9 hg; revert J L M O; clear HB; intro HB l G0 I0; clear hb hbox hg; obtain ⟨i1, j1, m1, n1⟩ := zc2 l) | (go_at_call 27; (with_reducible refine (spec_l5In.calls I 1 64 true _ A2.out).mono ?_); rintro e w' ⟨rfl, ⟨nd, rfl⟩⟩; (try first | exact ⟨rfl, _, World.drewN_drewN _ _ _⟩ | exact ⟨rfl, _, Eq.trans (World.drewN_drewN _ _ _) (congrArg (World.drewN _) (Nat.add_assoc _ _ _))⟩))))
 go_loopg [3, 4] k (fun kq v3 v4 w' => ∃ (J1 : Bool) (z : Int), v3 = .bool J1 ∧ v4 = .int .i64 z ∧ Aside0 (spec_LmOk.l0 kq J1 z I q = some r) ∧ Aside0 (kq ≤ k) ∧ Aside0 (w'.heap[A0]? = some (.cells #[.int .i64 I, (.slice F0 q.length t0)] 29 (0, 0))) ∧ Aside0 (Below w.heap.size w w'))
 case atStart => exact ⟨(false), (0), zR, zR, H', ⟨Nat.le_refl _⟩, ⟨zM l⟩, ⟨zB⟩⟩
 clear H'
 try clear p2
 try clear c3
 try clear c4
 try clear U2
 try clear V2
 try clear c8
 try clear b1 d1 e1 g1
 try clear i1 j1 m1 n1
 obtain ⟨J1, z, rfl, rfl, HA, S1, l, HB⟩ := hrel
 rcases gk with _ | k1
 · exact absurd HA.out (by simp [spec_LmOk.l0])
 have H := HA.out
 clear HA
 simp only [spec_LmOk.l0] at H
 by_cases c9 : z < (q.length : Int)
 rotate_left
 · rw [if_neg c9] at H
   have S3 := z2 c9
   clear c9
   obtain rfl := z5 H
   obtain ⟨t4, x4, y4, A4⟩ := zc2 l
   go_wp2
   repeat (go_quiet (fail); try go_wp2)
   go_ret
   exact ⟨zE, zB⟩
 rw [if_pos c9] at H
 have S3 := z1 c9
 clear c9
 by_cases N2 : 0 ≤ z
 rotate_left
 · rw [if_neg N2] at H
   exact absurd H (by simp)
 rw [if_pos N2] at H
 have e4 := z1 N2
 clear N2
 by_cases L1 : (((rd_T57 q z).f0).length : Int) > 4
 · rw [if_pos L1] at H
   have e3 := z1 L1
   have f3 : decide (4 < ((rd_T57 q z).f0).length) = true := z1 (by omega)
   clear L1
   obtain rfl := z5 H
   obtain ⟨E3, F3, G3, I3⟩ := zc2 l
   have j0 : 0 ≤ (z : Int) := z3
   have m0 : z < (q.length : Int) := z3
   obtain ⟨T0, B0, C0, D0, E0, U0, T, U, a0, b0, c0, d0⟩ := at_T57 S0.out z j0 m0
   cases U0
   (try replace T := zX HB T)
   (try replace U := zX HB U)
   have B := zK b0
   have E := zK a0
   clear b0 a0
   have o0 := zK d0
   have p0 := zK c0
   clear d0 c0
   replace j0 := eq_true j0
   replace m0 := eq_true m0
   go_wp2_with (first | ((with_reducible refine gd 5 rfl ?_); (try (refine gate_guard (by rfl) ?_; dsimp only)); refine zJ 5 #[.slice none 0 0, .slice none 0 0] 57 ?_; intro X hg j4 hbox hb; have J := z7 l hb; have L := z8 hb; have M := zK (hbox); have O := z9 hg; have e0 := z9 hg; have g0 := zHH hg l; have i0 := zGG hg l; revert J L M O e0 g0 i0; clear l HB; intro l HB A q0 s0 u y; clear hb hbox hg; have g3 := y.out; have i3 := u.out; obtain ⟨o1, s1, t1, x1⟩ := zc2 A))
   repeat (go_quiet (first | ((with_reducible refine gd 5 rfl ?_); (try (refine gate_guard (by rfl) ?_; dsimp only)); refine zJ 5 #[.slice none 0 0, .slice none 0 0] 57 ?_; intro X hg j4 hbox hb; have J := z7 l hb; have L := z8 hb; have M := zK (hbox); have O := z9 hg; have e0 := z9 hg; have g0 := zHH hg l; have i0 := zGG hg l; revert J L M O e0 g0 i0; clear l HB; intro l HB A q0 s0 u y; clear hb hbox hg; have g3 := y.out; have i3 := u.out; obtain ⟨o1, s1, t1, x1⟩ := zc2 A)); try go_wp2_with (first | ((with_reducible refine gd 5 rfl ?_); (try (refine gate_guard (by rfl) ?_; dsimp only)); refine zJ 5 #[.slice none 0 0, .slice none 0 0] 57 ?_; intro X hg j4 hbox hb; have J := z7 l hb; have L := z8 hb; have M := zK (hbox); have O := z9 hg; have e0 := z9 hg; have g0 := zHH hg l; have i0 := zGG hg l; revert J L M O e0 g0 i0; clear l HB; intro l HB A q0 s0 u y; clear hb hbox hg; have g3 := y.out; have i3 := u.out; obtain ⟨o1, s1, t1, x1⟩ := zc2 A)))
   go_ret
   exact ⟨zE, zB⟩
 rw [if_neg L1] at H
 have e3 := z2 L1
 have f3 : decide (4 < ((rd_T57 q z).f0).length) = false := z2 (by omega)
 clear L1
 replace H := z6 H
 obtain ⟨p4, T3, H⟩ := H
 have V0 := zK T3
 clear T3
 by_cases O2 : p4 = true
 rotate_left
 · replace O2 := Bool.eq_false_iff.mpr O2
   subst O2
   rw [if_neg (show ¬ (false = true) by decide)] at H
   obtain rfl := z5 H
   obtain ⟨B4, C4, D4, E4⟩ := zc2 l
   have j0 : 0 ≤ (z : Int) := z3
   have m0 : z < (q.length : Int) := z3
   obtain ⟨T0, B0, C0, D0, E0, U0, T, U, a0, b0, c0, d0⟩ := at_T57 S0.out z j0 m0
   cases U0
   (try replace T := zX HB T)
   (try replace U := zX HB U)
   have B := zK b0
   have E := zK a0
   clear b0 a0
   have o0 := zK d0
   have p0 := zK c0
   clear d0 c0
   replace j0 := eq_true j0
   replace m0 := eq_true m0
   go_wp2_with (first | ((with_reducible refine gd 5 rfl ?_); (try (refine gate_guard (by rfl) ?_; dsimp only)); refine zJ 5 #[.slice none 0 0, .slice none 0 0] 57 ?_; intro X hg l4 hbox hb; have J := z7 l hb; have L := z8 hb; have M := zK (hbox); have O := z9 hg; have e0 := z9 hg; have g0 := zHH hg l; have i0 := zGG hg l; revert J L M O e0 g0 i0; clear l HB; intro l HB A q0 s0 u y; clear hb hbox hg; have j3 := y.out; have l3 := u.out; obtain ⟨T1, U1, V1, X1⟩ := zc2 A; obtain ⟨a2, b2, d2, e2⟩ := zc2 l) | (go_at_call 28; (with_reducible refine (spec_l21Tokens.calls k1 _ _ ((rd_T57 q z).f0) I false _ ?side1 ?side2 V0.out).mono ?_); (case side1 => exact z4 B.out zB); (case side2 => exact E.out); rintro e w' ⟨rfl, ⟨nd, rfl⟩⟩; (try first | exact ⟨rfl, _, World.drewN_drewN _ _ _⟩ | exact ⟨rfl, _, Eq.trans (World.drewN_drewN _ _ _) (congrArg (World.drewN _) (Nat.add_assoc _ _ _))⟩)))
   repeat (go_quiet (first | ((with_reducible refine gd 5 rfl ?_); (try (refine gate_guard (by rfl) ?_; dsimp only)); refine zJ 5 #[.slice none 0 0, .slice none 0 0] 57 ?_; intro X hg l4 hbox hb; have J := z7 l hb; have L := z8 hb; have M := zK (hbox); have O := z9 hg; have e0 := z9 hg; have g0 := zHH hg l; have i0 := zGG hg l; revert J L M O e0 g0 i0; clear l HB; intro l HB A q0 s0 u y; clear hb hbox hg; have j3 := y.out; have l3 := u.out; obtain ⟨T1, U1, V1, X1⟩ := zc2 A; obtain ⟨a2, b2, d2, e2⟩ := zc2 l) | (go_at_call 28; (with_reducible refine (spec_l21Tokens.calls k1 _ _ ((rd_T57 q z).f0) I false _ ?side1 ?side2 V0.out).mono ?_); (case side1 => exact z4 B.out zB); (case side2 => exact E.out); rintro e w' ⟨rfl, ⟨nd, rfl⟩⟩; (try first | exact ⟨rfl, _, World.drewN_drewN _ _ _⟩ | exact ⟨rfl, _, Eq.trans (World.drewN_drewN _ _ _) (congrArg (World.drewN _) (Nat.add_assoc _ _ _))⟩))); try go_wp2_with (first | ((with_reducible refine gd 5 rfl ?_); (try (refine gate_guard (by rfl) ?_; dsimp only)); refine zJ 5 #[.slice none 0 0, .slice none 0 0] 57 ?_; intro X hg l4 hbox hb; have J := z7 l hb; have L := z8 hb; have M := zK (hbox); have O := z9 hg; have e0 := z9 hg; have g0 := zHH hg l; have i0 := zGG hg l; revert J L M O e0 g0 i0; clear l HB; intro l HB A q0 s0 u y; clear hb hbox hg; have j3 := y.out; have l3 := u.out; obtain ⟨T1, U1, V1, X1⟩ := zc2 A; obtain ⟨a2, b2, d2, e2⟩ := zc2 l) | (go_at_call 28; (with_reducible refine (spec_l21Tokens.calls k1 _ _ ((rd_T57 q z).f0) I false _ ?side1 ?side2 V0.out).mono ?_); (case side1 => exact z4 B.out zB); (case side2 => exact E.out); rintro e w' ⟨rfl, ⟨nd, rfl⟩⟩; (try first | exact ⟨rfl, _, World.drewN_drewN _ _ _⟩ | exact ⟨rfl, _, Eq.trans (World.drewN_drewN _ _ _) (congrArg (World.drewN _) (Nat.add_assoc _ _ _))⟩))))
   go_ret
   exact ⟨zE, zB⟩
 subst O2
 rw [if_pos rfl] at H
 by_cases I1 : (((rd_T57 q z).f1).length : Int) = I
 rotate_left
 · rw [if_neg I1] at H
   have m3 := beq_eq_false_iff_ne.mpr I1
   have n3 := bne_iff_ne.mpr I1
   obtain rfl := z5 H
   obtain ⟨F4, G4, I4, J4⟩ := zc2 l
   have j0 : 0 ≤ (z : Int) := z3
   have m0 : z < (q.length : Int) := z3
   obtain ⟨T0, B0, C0, D0, E0, U0, T, U, a0, b0, c0, d0⟩ := at_T57 S0.out z j0 m0
   cases U0
   (try replace T := zX HB T)
   (try replace U := zX HB U)
   have B := zK b0
   have E := zK a0
   clear b0 a0
   have o0 := zK d0
   have p0 := zK c0
   clear d0 c0
   replace j0 := eq_true j0
   replace m0 := eq_true m0
   go_wp2_with (first | ((with_reducible refine gd 5 rfl ?_); (try (refine gate_guard (by rfl) ?_; dsimp only)); refine zJ 5 #[.slice none 0 0, .slice none 0 0] 57 ?_; intro X hg m4 hbox hb; have J := z7 l hb; have L := z8 hb; have M := zK (hbox); have O := z9 hg; have e0 := z9 hg; have g0 := zHH hg l; have i0 := zGG hg l; revert J L M O e0 g0 i0; clear l HB; intro l HB A q0 s0 u y; clear hb hbox hg; have o3 := y.out; have p3 := u.out; obtain ⟨f2, g2, i2, j2⟩ := zc2 A; obtain ⟨l2, m2, n2, o2⟩ := zc2 l) | (go_at_call 28; (with_reducible refine (spec_l21Tokens.calls k1 _ _ ((rd_T57 q z).f0) I true _ ?side1 ?side2 V0.out).mono ?_); (case side1 => exact z4 B.out zB); (case side2 => exact E.out); rintro e w' ⟨rfl, ⟨nd, rfl⟩⟩; (try first | exact ⟨rfl, _, World.drewN_drewN _ _ _⟩ | exact ⟨rfl, _, Eq.trans (World.drewN_drewN _ _ _) (congrArg (World.drewN _) (Nat.add_assoc _ _ _))⟩)))
   repeat (go_quiet (first | ((with_reducible refine gd 5 rfl ?_); (try (refine gate_guard (by rfl) ?_; dsimp only)); refine zJ 5 #[.slice none 0 0, .slice none 0 0] 57 ?_; intro X hg m4 hbox hb; have J := z7 l hb; have L := z8 hb; have M := zK (hbox); have O := z9 hg; have e0 := z9 hg; have g0 := zHH hg l; have i0 := zGG hg l; revert J L M O e0 g0 i0; clear l HB; intro l HB A q0 s0 u y; clear hb hbox hg; have o3 := y.out; have p3 := u.out; obtain ⟨f2, g2, i2, j2⟩ := zc2 A; obtain ⟨l2, m2, n2, o2⟩ := zc2 l) | (go_at_call 28; (with_reducible refine (spec_l21Tokens.calls k1 _ _ ((rd_T57 q z).f0) I true _ ?side1 ?side2 V0.out).mono ?_); (case side1 => exact z4 B.out zB); (case side2 => exact E.out); rintro e w' ⟨rfl, ⟨nd, rfl⟩⟩; (try first | exact ⟨rfl, _, World.drewN_drewN _ _ _⟩ | exact ⟨rfl, _, Eq.trans (World.drewN_drewN _ _ _) (congrArg (World.drewN _) (Nat.add_assoc _ _ _))⟩))); try go_wp2_with (first | ((with_reducible refine gd 5 rfl ?_); (try (refine gate_guard (by rfl) ?_; dsimp only)); refine zJ 5 #[.slice none 0 0, .slice none 0 0] 57 ?_; intro X hg m4 hbox hb; have J := z7 l hb; have L := z8 hb; have M := zK (hbox); have O := z9 hg; have e0 := z9 hg; have g0 := zHH hg l; have i0 := zGG hg l; revert J L M O e0 g0 i0; clear l HB; intro l HB A q0 s0 u y; clear hb hbox hg; have o3 := y.out; have p3 := u.out; obtain ⟨f2, g2, i2, j2⟩ := zc2 A; obtain ⟨l2, m2, n2, o2⟩ := zc2 l) | (go_at_call 28; (with_reducible refine (spec_l21Tokens.calls k1 _ _ ((rd_T57 q z).f0) I true _ ?side1 ?side2 V0.out).mono ?_); (case side1 => exact z4 B.out zB); (case side2 => exact E.out); rintro e w' ⟨rfl, ⟨nd, rfl⟩⟩; (try first | exact ⟨rfl, _, World.drewN_drewN _ _ _⟩ | exact ⟨rfl, _, Eq.trans (World.drewN_drewN _ _ _) (congrArg (World.drewN _) (Nat.add_assoc _ _ _))⟩))))
   go_ret
   exact ⟨zE, zB⟩
 rw [if_pos I1] at H
 have m3 := beq_iff_eq.mpr I1
 have n3 := bne_eq_false_iff_eq.mpr I1
 clear I1
 replace H := z6 H
 obtain ⟨q4, U3, H⟩ := H
 have q2 := zK U3
 clear U3
 by_cases R2 : q4 = true
 rotate_left
 · replace R2 := Bool.eq_false_iff.mpr R2
   subst R2
   rw [if_neg (show ¬ (false = true) by decide)] at H
   obtain rfl := z5 H
   obtain ⟨L4, M4, N4, O4⟩ := zc2 l
   have j0 : 0 ≤ (z : Int) := z3
   have m0 : z < (q.length : Int) := z3
   obtain ⟨T0, B0, C0, D0, E0, U0, T, U, a0, b0, c0, d0⟩ := at_T57 S0.out z j0 m0
   cases U0
   (try replace T := zX HB T)
   (try replace U := zX HB U)
   have B := zK b0
   have E := zK a0
   clear b0 a0
   have o0 := zK d0
   have p0 := zK c0
   clear d0 c0
   replace j0 := eq_true j0
   replace m0 := eq_true m0
   go_wp2_with (first | ((with_reducible refine gd 5 rfl ?_); (try (refine gate_guard (by rfl) ?_; dsimp only)); refine zJ 5 #[.slice none 0 0, .slice none 0 0] 57 ?_; intro X hg n4 hbox hb; have J := z7 l hb; have L := z8 hb; have M := zK (hbox); have O := z9 hg; have e0 := z9 hg; have g0 := zHH hg l; have i0 := zGG hg l; revert J L M O e0 g0 i0; clear l HB; intro l HB A q0 s0 u y; clear hb hbox hg; have q3 := y.out; have s3 := u.out; obtain ⟨s2, t2, x2, y2⟩ := zc2 A; obtain ⟨B2, C2, D2, E2⟩ := zc2 l) | (go_at_call 28; (with_reducible refine (spec_l21Tokens.calls k1 _ _ ((rd_T57 q z).f0) I true _ ?side1 ?side2 V0.out).mono ?_); (case side1 => exact z4 B.out zB); (case side2 => exact E.out); rintro e w' ⟨rfl, ⟨nd, rfl⟩⟩; (try first | exact ⟨rfl, _, World.drewN_drewN _ _ _⟩ | exact ⟨rfl, _, Eq.trans (World.drewN_drewN _ _ _) (congrArg (World.drewN _) (Nat.add_assoc _ _ _))⟩)) | (go_at_call 29; (with_reducible refine (spec_l21Weights.calls k1 _ _ ((rd_T57 q z).f1) false _ ?side1 ?side2 q2.out).mono ?_); (case side1 => exact z4 o0.out zB); (case side2 => exact p0.out); rintro e w' ⟨rfl, ⟨nd, rfl⟩⟩; (try first | exact ⟨rfl, _, World.drewN_drewN _ _ _⟩ | exact ⟨rfl, _, Eq.trans (World.drewN_drewN _ _ _) (congrArg (World.drewN _) (Nat.add_assoc _ _ _))⟩)))
   repeat (go_quiet (first | ((with_reducible refine gd 5 rfl ?_); (try (refine gate_guard (by rfl) ?_; dsimp only)); refine zJ 5 #[.slice none 0 0, .slice none 0 0] 57 ?_; intro X hg n4 hbox hb; have J := z7 l hb; have L := z8 hb; have M := zK (hbox); have O := z9 hg; have e0 := z9 hg; have g0 := zHH hg l; have i0 := zGG hg l; revert J L M O e0 g0 i0; clear l HB; intro l HB A q0 s0 u y; clear hb hbox hg; have q3 := y.out; have s3 := u.out; obtain ⟨s2, t2, x2, y2⟩ := zc2 A; obtain ⟨B2, C2, D2, E2⟩ := zc2 l) | (go_at_call 28; (with_reducible refine (spec_l21Tokens.calls k1 _ _ ((rd_T57 q z).f0) I true _ ?side1 ?side2 V0.out).mono ?_); (case side1 => exact z4 B.out zB); (case side2 => exact E.out); rintro e w' ⟨rfl, ⟨nd, rfl⟩⟩; (try first | exact ⟨rfl, _, World.drewN_drewN _ _ _⟩ | exact ⟨rfl, _, Eq.trans (World.drewN_drewN _ _ _) (congrArg (World.drewN _) (Nat.add_assoc _ _ _))⟩)) | (go_at_call 29; (with_reducible refine (spec_l21Weights.calls k1 _ _ ((rd_T57 q z).f1) false _ ?side1 ?side2 q2.out).mono ?_); (case side1 => exact z4 o0.out zB); (case side2 => exact p0.out); rintro e w' ⟨rfl, ⟨nd, rfl⟩⟩; (try first | exact ⟨rfl, _, World.drewN_drewN _ _ _⟩ | exact ⟨rfl, _, Eq.trans (World.drewN_drewN _ _ _) (congrArg (World.drewN _) (Nat.add_assoc _ _ _))⟩))); try go_wp2_with (first | ((with_reducible refine gd 5 rfl ?_); (try (refine gate_guard (by rfl) ?_; dsimp only)); refine zJ 5 #[.slice none 0 0, .slice none 0 0] 57 ?_; intro X hg n4 hbox hb; have J := z7 l hb; have L := z8 hb; have M := zK (hbox); have O := z9 hg; have e0 := z9 hg; have g0 := zHH hg l; have i0 := zGG hg l; revert J L M O e0 g0 i0; clear l HB; intro l HB A q0 s0 u y; clear hb hbox hg; have q3 := y.out; have s3 := u.out; obtain ⟨s2, t2, x2, y2⟩ := zc2 A; obtain ⟨B2, C2, D2, E2⟩ := zc2 l) | (go_at_call 28; (with_reducible refine (spec_l21Tokens.calls k1 _ _ ((rd_T57 q z).f0) I true _ ?side1 ?side2 V0.out).mono ?_); (case side1 => exact z4 B.out zB); (case side2 => exact E.out); rintro e w' ⟨rfl, ⟨nd, rfl⟩⟩; (try first | exact ⟨rfl, _, World.drewN_drewN _ _ _⟩ | exact ⟨rfl, _, Eq.trans (World.drewN_drewN _ _ _) (congrArg (World.drewN _) (Nat.add_assoc _ _ _))⟩)) | (go_at_call 29; (with_reducible refine (spec_l21Weights.calls k1 _ _ ((rd_T57 q z).f1) false _ ?side1 ?side2 q2.out).mono ?_); (case side1 => exact z4 o0.out zB); (case side2 => exact p0.out); rintro e w' ⟨rfl, ⟨nd, rfl⟩⟩; (try first | exact ⟨rfl, _, World.drewN_drewN _ _ _⟩ | exact ⟨rfl, _, Eq.trans (World.drewN_drewN _ _ _) (congrArg (World.drewN _) (Nat.add_assoc _ _ _))⟩))))
   go_ret
   exact ⟨zE, zB⟩
 subst R2
 rw [if_pos rfl] at H
 have H' := zK H
 clear H
 obtain ⟨J3, L3, M3, N3⟩ := zc2 l
 have j0 : 0 ≤ (z : Int) := z3
 have m0 : z < (q.length : Int) := z3
 obtain ⟨T0, B0, C0, D0, E0, U0, T, U, a0, b0, c0, d0⟩ := at_T57 S0.out z j0 m0
 cases U0
 (try replace T := zX HB T)
 (try replace U := zX HB U)
 have B := zK b0
 have E := zK a0
 clear b0 a0
 have o0 := zK d0
 have p0 := zK c0
 clear d0 c0
 replace j0 := eq_true j0
 replace m0 := eq_true m0
 go_wp2_with (first | ((with_reducible refine gd 5 rfl ?_); (try (refine gate_guard (by rfl) ?_; dsimp only)); refine zJ 5 #[.slice none 0 0, .slice none 0 0] 57 ?_; intro X hg o4 hbox hb; have J := z7 l hb; have L := z8 hb; have M := zK (hbox); have O := z9 hg; have e0 := z9 hg; have g0 := zHH hg l; have i0 := zGG hg l; revert J L M O e0 g0 i0; clear l HB; intro l HB A q0 s0 u y; clear hb hbox hg; have t3 := y.out; have x3 := u.out; obtain ⟨y1, A1, B1, C1⟩ := zc2 A; obtain ⟨D1, E1, F1, G1⟩ := zc2 l) | (go_at_call 28; (with_reducible refine (spec_l21Tokens.calls k1 _ _ ((rd_T57 q z).f0) I true _ ?side1 ?side2 V0.out).mono ?_); (case side1 => exact z4 B.out zB); (case side2 => exact E.out); rintro e w' ⟨rfl, ⟨nd, rfl⟩⟩; (try first | exact ⟨rfl, _, World.drewN_drewN _ _ _⟩ | exact ⟨rfl, _, Eq.trans (World.drewN_drewN _ _ _) (congrArg (World.drewN _) (Nat.add_assoc _ _ _))⟩)) | (go_at_call 29; (with_reducible refine (spec_l21Weights.calls k1 _ _ ((rd_T57 q z).f1) true _ ?side1 ?side2 q2.out).mono ?_); (case side1 => exact z4 o0.out zB); (case side2 => exact p0.out); rintro e w' ⟨rfl, ⟨nd, rfl⟩⟩; (try first | exact ⟨rfl, _, World.drewN_drewN _ _ _⟩ | exact ⟨rfl, _, Eq.trans (World.drewN_drewN _ _ _) (congrArg (World.drewN _) (Nat.add_assoc _ _ _))⟩)))
 repeat (go_quiet (first | ((with_reducible refine gd 5 rfl ?_); (try (refine gate_guard (by rfl) ?_; dsimp only)); refine zJ 5 #[.slice none 0 0, .slice none 0 0] 57 ?_; intro X hg o4 hbox hb; have J := z7 l hb; have L := z8 hb; have M := zK (hbox); have O := z9 hg; have e0 := z9 hg; have g0 := zHH hg l; have i0 := zGG hg l; revert J L M O e0 g0 i0; clear l HB; intro l HB A q0 s0 u y; clear hb hbox hg; have t3 := y.out; have x3 := u.out; obtain ⟨y1, A1, B1, C1⟩ := zc2 A; obtain ⟨D1, E1, F1, G1⟩ := zc2 l) | (go_at_call 28; (with_reducible refine (spec_l21Tokens.calls k1 _ _ ((rd_T57 q z).f0) I true _ ?side1 ?side2 V0.out).mono ?_); (case side1 => exact z4 B.out zB); (case side2 => exact E.out); rintro e w' ⟨rfl, ⟨nd, rfl⟩⟩; (try first | exact ⟨rfl, _, World.drewN_drewN _ _ _⟩ | exact ⟨rfl, _, Eq.trans (World.drewN_drewN _ _ _) (congrArg (World.drewN _) (Nat.add_assoc _ _ _))⟩)) | (go_at_call 29; (with_reducible refine (spec_l21Weights.calls k1 _ _ ((rd_T57 q z).f1) true _ ?side1 ?side2 q2.out).mono ?_); (case side1 => exact z4 o0.out zB); (case side2 => exact p0.out); rintro e w' ⟨rfl, ⟨nd, rfl⟩⟩; (try first | exact ⟨rfl, _, World.drewN_drewN _ _ _⟩ | exact ⟨rfl, _, Eq.trans (World.drewN_drewN _ _ _) (congrArg (World.drewN _) (Nat.add_assoc _ _ _))⟩))); try go_wp2_with (first | ((with_reducible refine gd 5 rfl ?_); (try (refine gate_guard (by rfl) ?_; dsimp only)); refine zJ 5 #[.slice none 0 0, .slice none 0 0] 57 ?_; intro X hg o4 hbox hb; have J := z7 l hb; have L := z8 hb; have M := zK (hbox); have O := z9 hg; have e0 := z9 hg; have g0 := zHH hg l; have i0 := zGG hg l; revert J L M O e0 g0 i0; clear l HB; intro l HB A q0 s0 u y; clear hb hbox hg; have t3 := y.out; have x3 := u.out; obtain ⟨y1, A1, B1, C1⟩ := zc2 A; obtain ⟨D1, E1, F1, G1⟩ := zc2 l) | (go_at_call 28; (with_reducible refine (spec_l21Tokens.calls k1 _ _ ((rd_T57 q z).f0) I true _ ?side1 ?side2 V0.out).mono ?_); (case side1 => exact z4 B.out zB); (case side2 => exact E.out); rintro e w' ⟨rfl, ⟨nd, rfl⟩⟩; (try first | exact ⟨rfl, _, World.drewN_drewN _ _ _⟩ | exact ⟨rfl, _, Eq.trans (World.drewN_drewN _ _ _) (congrArg (World.drewN _) (Nat.add_assoc _ _ _))⟩)) | (go_at_call 29; (with_reducible refine (spec_l21Weights.calls k1 _ _ ((rd_T57 q z).f1) true _ ?side1 ?side2 q2.out).mono ?_); (case side1 => exact z4 o0.out zB); (case side2 => exact p0.out); rintro e w' ⟨rfl, ⟨nd, rfl⟩⟩; (try first | exact ⟨rfl, _, World.drewN_drewN _ _ _⟩ | exact ⟨rfl, _, Eq.trans (World.drewN_drewN _ _ _) (congrArg (World.drewN _) (Nat.add_assoc _ _ _))⟩))))
 go_loopg [6] k1 (fun kq v6 w' => ∃ (n0 : Int), v6 = .int .i64 n0 ∧ Aside0 (spec_LmOk.l1 kq J1 z n0 I q ((rd_T57 q z).f0) ((rd_T57 q z).f1) = some r) ∧ Aside0 (kq ≤ k1) ∧ Aside0 (w'.heap[A0]? = some (.cells #[.int .i64 I, (.slice (some T0) q.length t0)] 29 (0, 0))) ∧ Aside0 (w'.heap[X]? = some (.cells #[(.slice B0 ((rd_T57 q z).f0).length C0), (.slice D0 ((rd_T57 q z).f1).length E0)] 57 (0, 0))) ∧ Aside0 (Below w.heap.size w w'))
 case atStart => exact ⟨(0), zR, H', ⟨Nat.le_refl _⟩, ⟨zV l⟩, ⟨zW A⟩, ⟨zB⟩⟩
 clear H'
 try clear c1
 try clear p1
 try clear q1
 try clear N5
 try clear c2
 try clear p2
 try clear c3
 try clear c4
 try clear U2
 try clear V2
 try clear c8
 try clear c9
 try clear S3
 try clear N2
 try clear e4
 try clear L1
 try clear e3
 try clear f3
 try clear O5
 try clear O2
 try clear I1
 try clear m3
 try clear n3
 try clear R5
 try clear S5
 try clear M5
 try clear R2
 try clear T5
 try clear E3 F3 G3 I3
 try clear o1 s1 t1 x1
 try clear J3 L3 M3 N3
 try clear y1 A1 B1 C1
 try clear D1 E1 F1 G1
 try clear b1 d1 e1 g1
 try clear i1 j1 m1 n1
 try clear T
 try clear U
 try clear j0
 try clear p2
 try clear m0
 obtain ⟨n0, rfl, HA, F2, l, A, HB⟩ := hrel
 rcases gk with _ | k2
 · exact absurd HA.out (by simp [spec_LmOk.l1])
 have H := HA.out
 clear HA
 simp only [spec_LmOk.l1] at H
 by_cases G2 : n0 < z
 rotate_left
 · rw [if_neg G2] at H
   have f4 := z2 G2
   clear G2
   by_cases y3 : J1 = true
   · subst y3
     rw [if_pos rfl] at H
     have H' := zK H
     clear H
     go_wp2
     repeat (go_quiet (fail); try go_wp2)
     go_roundg k2
     case measure => have := S1.out; have := F2.out; omega
     case rel => exact ⟨(true), (wrap64 (z + 1)), zR, zR, H', ⟨by have := S1.out; have := F2.out; omega⟩, ⟨zM l⟩, ⟨zB⟩⟩
   replace y3 := Bool.eq_false_iff.mpr y3
   subst y3
   rw [if_neg (show ¬ (false = true) by decide)] at H
   have H' := zK H
   clear H
   have y5 := y.out
   have A5 := u.out
   have R4 : wr.cell? ⟨X, 0, none⟩ = some (.slice B0 ((rd_T57 q z).f0).length C0) := zy A 0
   have S4 : wr.cell? ⟨X, 1, none⟩ = some (.slice D0 ((rd_T57 q z).f1).length E0) := zy A 1
   have T4 := zf A.out 0
   have U4 := zf A.out 1
   go_wp2
   repeat (go_quiet (fail); try go_wp2)
   go_roundg k2
   case measure => have := S1.out; have := F2.out; omega
   case rel => exact ⟨(((((rd_T57 q z).f0).length : Int) == 0)), (wrap64 (z + 1)), zR, zR, H', ⟨by have := S1.out; have := F2.out; omega⟩, ⟨zM l⟩, ⟨zB⟩⟩
 rw [if_pos G2] at H
 have f4 := z1 G2
 clear G2
 by_cases A3 : 0 ≤ n0
 rotate_left
 · rw [if_neg A3] at H
   exact absurd H (by simp)
 rw [if_pos A3] at H
 have B5 := z1 A3
 clear A3
 by_cases B3 : n0 < (q.length : Int)
 rotate_left
 · rw [if_neg B3] at H
   exact absurd H (by simp)
 rw [if_pos B3] at H
 have C5 := z1 B3
 clear B3
 replace H := z6 H
 obtain ⟨s4, V3, H⟩ := H
 have I2 := zK V3
 clear V3
 by_cases C3 : s4 = true
 · subst C3
   rw [if_pos rfl] at H
   obtain rfl := z5 H
   have D5 := u.out
   have E5 := y.out
   obtain ⟨V4, X4, a5, b5⟩ := zc2 l
   have X0 : 0 ≤ (n0 : Int) := z3
   have a1 : n0 < (q.length : Int) := z3
   obtain ⟨L2, X3, a4, b4, d4, a3, J0, L0, M0, N0, O0, R0⟩ := at_T57 S0.out n0 X0 a1
   obtain rfl : T0 = L2 := (by injection a3)
   (try replace J0 := zX HB J0)
   (try replace L0 := zX HB L0)
   have x0 := zK N0
   have y0 := zK M0
   clear N0 M0
   have O3 := zK R0
   have R3 := zK O0
   clear R0 O0
   replace X0 := eq_true X0
   replace a1 := eq_true a1
   have c5 : wr.cell? ⟨X, 0, none⟩ = some (.slice B0 ((rd_T57 q z).f0).length C0) := zy A 0
   have d5 : wr.cell? ⟨X, 1, none⟩ = some (.slice D0 ((rd_T57 q z).f1).length E0) := zy A 1
   have e5 := zf A.out 0
   have f5 := zf A.out 1
   go_wp2_with (first | (go_at_call 30; (with_reducible refine (spec_l3SameInts.calls k2 _ _ ((rd_T57 q n0).f0) _ _ ((rd_T57 q z).f0) true _ ?side1 ?side2 ?side3 ?side4 I2.out).mono ?_); (case side1 => exact zS x0); (case side2 => exact y0.out); (case side3 => exact zS B); (case side4 => exact E.out); rintro e w' ⟨rfl, ⟨nd, rfl⟩⟩; (try first | exact ⟨rfl, _, World.drewN_drewN _ _ _⟩ | exact ⟨rfl, _, Eq.trans (World.drewN_drewN _ _ _) (congrArg (World.drewN _) (Nat.add_assoc _ _ _))⟩)))
   repeat (go_quiet (first | (go_at_call 30; (with_reducible refine (spec_l3SameInts.calls k2 _ _ ((rd_T57 q n0).f0) _ _ ((rd_T57 q z).f0) true _ ?side1 ?side2 ?side3 ?side4 I2.out).mono ?_); (case side1 => exact zS x0); (case side2 => exact y0.out); (case side3 => exact zS B); (case side4 => exact E.out); rintro e w' ⟨rfl, ⟨nd, rfl⟩⟩; (try first | exact ⟨rfl, _, World.drewN_drewN _ _ _⟩ | exact ⟨rfl, _, Eq.trans (World.drewN_drewN _ _ _) (congrArg (World.drewN _) (Nat.add_assoc _ _ _))⟩))); try go_wp2_with (first | (go_at_call 30; (with_reducible refine (spec_l3SameInts.calls k2 _ _ ((rd_T57 q n0).f0) _ _ ((rd_T57 q z).f0) true _ ?side1 ?side2 ?side3 ?side4 I2.out).mono ?_); (case side1 => exact zS x0); (case side2 => exact y0.out); (case side3 => exact zS B); (case side4 => exact E.out); rintro e w' ⟨rfl, ⟨nd, rfl⟩⟩; (try first | exact ⟨rfl, _, World.drewN_drewN _ _ _⟩ | exact ⟨rfl, _, Eq.trans (World.drewN_drewN _ _ _) (congrArg (World.drewN _) (Nat.add_assoc _ _ _))⟩))))
   go_ret
   exact ⟨zE, zB⟩
 replace C3 := Bool.eq_false_iff.mpr C3
 subst C3
 rw [if_neg (show ¬ (false = true) by decide)] at H
 have H' := zK H
 clear H
 have F5 := u.out
 have G5 := y.out
 obtain ⟨g5, i5, j5, l5⟩ := zc2 l
 have X0 : 0 ≤ (n0 : Int) := z3
 have a1 : n0 < (q.length : Int) := z3
 obtain ⟨L2, X3, a4, b4, d4, a3, J0, L0, M0, N0, O0, R0⟩ := at_T57 S0.out n0 X0 a1
 obtain rfl : T0 = L2 := (by injection a3)
 (try replace J0 := zX HB J0)
 (try replace L0 := zX HB L0)
 have x0 := zK N0
 have y0 := zK M0
 clear N0 M0
 have O3 := zK R0
 have R3 := zK O0
 clear R0 O0
 replace X0 := eq_true X0
 replace a1 := eq_true a1
 have m5 : wr.cell? ⟨X, 0, none⟩ = some (.slice B0 ((rd_T57 q z).f0).length C0) := zy A 0
 have n5 : wr.cell? ⟨X, 1, none⟩ = some (.slice D0 ((rd_T57 q z).f1).length E0) := zy A 1
 have o5 := zf A.out 0
 have p5 := zf A.out 1
 go_wp2_with (first | (go_at_call 30; (with_reducible refine (spec_l3SameInts.calls k2 _ _ ((rd_T57 q n0).f0) _ _ ((rd_T57 q z).f0) false _ ?side1 ?side2 ?side3 ?side4 I2.out).mono ?_); (case side1 => exact zS x0); (case side2 => exact y0.out); (case side3 => exact zS B); (case side4 => exact E.out); rintro e w' ⟨rfl, ⟨nd, rfl⟩⟩; (try first | exact ⟨rfl, _, World.drewN_drewN _ _ _⟩ | exact ⟨rfl, _, Eq.trans (World.drewN_drewN _ _ _) (congrArg (World.drewN _) (Nat.add_assoc _ _ _))⟩)))
 repeat (go_quiet (first | (go_at_call 30; (with_reducible refine (spec_l3SameInts.calls k2 _ _ ((rd_T57 q n0).f0) _ _ ((rd_T57 q z).f0) false _ ?side1 ?side2 ?side3 ?side4 I2.out).mono ?_); (case side1 => exact zS x0); (case side2 => exact y0.out); (case side3 => exact zS B); (case side4 => exact E.out); rintro e w' ⟨rfl, ⟨nd, rfl⟩⟩; (try first | exact ⟨rfl, _, World.drewN_drewN _ _ _⟩ | exact ⟨rfl, _, Eq.trans (World.drewN_drewN _ _ _) (congrArg (World.drewN _) (Nat.add_assoc _ _ _))⟩))); try go_wp2_with (first | (go_at_call 30; (with_reducible refine (spec_l3SameInts.calls k2 _ _ ((rd_T57 q n0).f0) _ _ ((rd_T57 q z).f0) false _ ?side1 ?side2 ?side3 ?side4 I2.out).mono ?_); (case side1 => exact zS x0); (case side2 => exact y0.out); (case side3 => exact zS B); (case side4 => exact E.out); rintro e w' ⟨rfl, ⟨nd, rfl⟩⟩; (try first | exact ⟨rfl, _, World.drewN_drewN _ _ _⟩ | exact ⟨rfl, _, Eq.trans (World.drewN_drewN _ _ _) (congrArg (World.drewN _) (Nat.add_assoc _ _ _))⟩))))
 go_roundg k2
 case measure => have := S1.out; have := F2.out; omega
 case rel => exact ⟨(wrap64 (n0 + 1)), zR, H', ⟨by have := S1.out; have := F2.out; omega⟩, ⟨zM l⟩, ⟨zM A⟩, ⟨zB⟩⟩
def spec_ChoiceOk.f (l : Int) (q : Int) (u : Int) : Option (Bool) := (spec_l5In.f l 1 2).bind fun y => (if y = true then ((spec_l5In.f q 0 64).bind fun z => (if z = true then ((spec_l5In.f u 1 65536).bind fun A => (some A)) else (some false))) else (some false))
theorem spec_ChoiceOk.calls (l) (q) (u) (r : Bool) (w) (h : spec_ChoiceOk.f l q u = some r) :
 Calls Try.prog 38 #[.agg #[.int .i64 l, .int .i64 q, .int .i64 u]] w fun e w' => e = .returned (.bool r) ∧ Below w.heap.size w w' := by
 have l0 := Try.underlying39
 have HB := zK (Below.refl w.heap.size w)
 have H : ((spec_l5In.f l 1 2).bind fun y => (if y = true then ((spec_l5In.f q 0 64).bind fun z => (if z = true then ((spec_l5In.f u 1 65536).bind fun A => (some A)) else (some false))) else (some false))) = some r := h
 clear h
 replace H := z6 H
 obtain ⟨y, J, H⟩ := H
 have A2 := zK J
 clear J
 rcases zN (y = true) with B | B
 replace B := Bool.eq_false_iff.mpr B
 subst B
 rw [if_neg (show ¬ (false = true) by decide)] at H
 obtain rfl := z5 H
 rotate_left
 subst B
 rw [if_pos rfl] at H
 replace H := z6 H
 obtain ⟨z, L, H⟩ := H
 have A4 := zK L
 clear L
 rcases zN (z = true) with E | E
 replace E := Bool.eq_false_iff.mpr E
 subst E
 rw [if_neg (show ¬ (false = true) by decide)] at H
 obtain rfl := z5 H
 rotate_left
 subst E
 rw [if_pos rfl] at H
 replace H := z6 H
 obtain ⟨A, M, H⟩ := H
 have A6 := zK M
 clear M
 obtain rfl := z5 H
 all_goals go_enter Try.func38, Try.ntmps38
 all_goals go_wp2_with (first | ((with_reducible refine gd 1 rfl ?_); refine zJ 1 #[.int .i64 l, .int .i64 q, .int .i64 u] 39 ?_; intro g0 hg w7 hbox hb; have O := z8 hb; have T := zK (hbox); have U := z9 hg; have X := z9 hg; revert O T U X; clear HB; intro HB I i0 j0; clear hb hbox hg; obtain ⟨a0, b0, c0, d0, e0, f0⟩ := zc3 I) | ((with_reducible refine gc 27 rfl ?_); refine zF 5 Try.func27 #[.int .i64 l, .int .i64 1, .int .i64 2] rfl zL ?_; (with_reducible refine (spec_l5In.calls l 1 2 _ _ A2.out).mono ?_); rintro e w' ⟨rfl, ⟨nd, rfl⟩⟩; refine ⟨_, rfl, ?_⟩) | (go_at_call 27; (with_reducible refine (spec_l5In.calls q 0 64 _ _ A4.out).mono ?_); rintro e w' ⟨rfl, ⟨nd, rfl⟩⟩) | (go_at_call 27; (with_reducible refine (spec_l5In.calls u 1 65536 A _ A6.out).mono ?_); rintro e w' ⟨rfl, ⟨nd, rfl⟩⟩))
 all_goals go_ret
 all_goals exact ⟨zE, zB⟩
def spec_HouseOk.f (k : Nat) (l : Int) (q : List (S57)) (u : Int) (y : Int) (z : Int) (A : Int) (B : Int) (E : Int) : Option (Bool) := (spec_LmOk.f k l q).bind fun I => (if I = true then ((spec_ChoiceOk.f u y z).bind fun J => (if J = true then ((spec_l5In.f A 1 1000).bind fun L => (if L = true then ((spec_l5In.f B 1 100).bind fun M => (if M = true then ((spec_l5In.f E 1 100).bind fun O => (some O)) else (some false))) else (some false))) else (some false))) else (some false))
theorem spec_HouseOk.calls (k) (u) (J) (L) (q : List (S57)) (y) (z) (A) (B) (E) (I) (r : Bool) (w) (c0 : Kd.C k57 w J q.length q) (d0 : q.length ≤ L) (h : spec_HouseOk.f k u q y z A B E I = some r) :
 Calls Try.prog 13 #[.agg #[.int .i64 u, .slice J q.length L, .int .i64 y, .int .i64 z, .int .i64 A, .int .i64 B, .int .i64 E, .int .i64 I]] w fun e w' => e = .returned (.bool r) ∧ Below w.heap.size w w' := by
 have O1 := Try.underlying41
 have R1 := Try.underlying29
 have S1 := Try.underlying39
 have l0 := zK c0
 have m0 := zK d0
 clear c0 d0
 have HB := zK (Below.refl w.heap.size w)
 have H : ((spec_LmOk.f k u q).bind fun T => (if T = true then ((spec_ChoiceOk.f y z A).bind fun U => (if U = true then ((spec_l5In.f B 1 1000).bind fun X => (if X = true then ((spec_l5In.f E 1 100).bind fun a0 => (if a0 = true then ((spec_l5In.f I 1 100).bind fun b0 => (some b0)) else (some false))) else (some false))) else (some false))) else (some false))) = some r := h
 clear h
 replace H := z6 H
 obtain ⟨T, n0, H⟩ := H
 have A2 := zK n0
 clear n0
 rcases zN (T = true) with c3 | c3
 replace c3 := Bool.eq_false_iff.mpr c3
 subst c3
 rw [if_neg (show ¬ (false = true) by decide)] at H
 obtain rfl := z5 H
 rotate_left
 subst c3
 rw [if_pos rfl] at H
 replace H := z6 H
 obtain ⟨U, o0, H⟩ := H
 have A4 := zK o0
 clear o0
 rcases zN (U = true) with c5 | c5
 replace c5 := Bool.eq_false_iff.mpr c5
 subst c5
 rw [if_neg (show ¬ (false = true) by decide)] at H
 obtain rfl := z5 H
 rotate_left
 subst c5
 rw [if_pos rfl] at H
 replace H := z6 H
 obtain ⟨X, p0, H⟩ := H
 have A6 := zK p0
 clear p0
 rcases zN (X = true) with c7 | c7
 replace c7 := Bool.eq_false_iff.mpr c7
 subst c7
 rw [if_neg (show ¬ (false = true) by decide)] at H
 obtain rfl := z5 H
 rotate_left
 subst c7
 rw [if_pos rfl] at H
 replace H := z6 H
 obtain ⟨a0, q0, H⟩ := H
 have A8 := zK q0
 clear q0
 rcases zN (a0 = true) with c9 | c9
 replace c9 := Bool.eq_false_iff.mpr c9
 subst c9
 rw [if_neg (show ¬ (false = true) by decide)] at H
 obtain rfl := z5 H
 rotate_left
 subst c9
 rw [if_pos rfl] at H
 replace H := z6 H
 obtain ⟨b0, j0, H⟩ := H
 have G1 := zK j0
 clear j0
 obtain rfl := z5 H
 all_goals go_enter Try.func13, Try.ntmps13
 all_goals go_wp2_with (first | ((with_reducible refine gd 1 rfl ?_); refine zJ 1 #[.int .i64 u, .slice J q.length L, .int .i64 y, .int .i64 z, .int .i64 A, .int .i64 B, .int .i64 E, .int .i64 I] 41 ?_; intro L1 hg a2 hbox hb; have M := z8 hb; have O := zK (hbox); have I1 := z9 hg; have J1 := z9 hg; revert M O I1 J1; clear HB; intro HB l M1 N1; clear hb hbox hg; obtain ⟨s0, t0, x0, y0, A0, B0, C0, D0, E0, F0, G0, I0, J0, L0, M0, N0⟩ := zc8 l) | ((with_reducible refine gc 8 rfl ?_); refine zF 5 Try.func8 #[.agg #[.int .i64 u, .slice J q.length L]] rfl zL ?_; refine (spec_LmOk.calls k u _ _ q _ _ (zS l0) m0.out A2.out).mono ?_; rintro e b2 ⟨rfl, hb⟩; refine ⟨_, rfl, ?_⟩; have M := z7 l hb; have O := z8 hb; revert M O; clear l HB; intro l HB; obtain ⟨O0, R0, S0, T0, U0, V0, X0, a1, b1, c1, d1, e1, f1, g1, i1, j1⟩ := zc8 l) | (go_at_call 38; (with_reducible refine (spec_ChoiceOk.calls y z A _ _ A4.out).mono ?_); rintro e c2 ⟨rfl, hb⟩; have M := z7 l hb; have O := z8 hb; revert M O; clear l HB; intro l HB; obtain ⟨l1, m1, n1, o1, p1, q1, s1, t1, x1, y1, A1, B1, C1, D1, E1, F1⟩ := zc8 l) | (go_at_call 27; (with_reducible refine (spec_l5In.calls B 1 1000 _ _ A6.out).mono ?_); rintro e w' ⟨rfl, ⟨nd, rfl⟩⟩) | (go_at_call 27; (with_reducible refine (spec_l5In.calls E 1 100 _ _ A8.out).mono ?_); rintro e w' ⟨rfl, ⟨nd, rfl⟩⟩) | (go_at_call 27; (with_reducible refine (spec_l5In.calls I 1 100 b0 _ G1.out).mono ?_); rintro e w' ⟨rfl, ⟨nd, rfl⟩⟩))
 all_goals go_ret
 all_goals exact ⟨zE, zB⟩
def spec_l22Pages.f (q : Int) (u : List (S57)) (y : Int) (z : Int) (A : Int) (B : Int) (l : Int) (E : Int) (I : Int) : Option (Int) := if l = 0 then (none) else (some (wrap64 (Int.tdiv (wrap64 ((wrap64 (I + l)) - 1)) l)))
theorem spec_l22Pages.calls (u) (y) (z) (q : List (S57)) (A) (B) (E) (I) (l) (J) (U) (r) (w) (L : Kd.C k57 w y q.length q) (M : q.length ≤ z) (h : spec_l22Pages.f u q A B E I l J U = some r) :
 Calls Try.prog 42 #[.agg #[.int .i64 u, .slice y q.length z, .int .i64 A, .int .i64 B, .int .i64 E, .int .i64 I, .int .i64 l, .int .i64 J], .int .i64 U] w fun e w' => e = .returned (.int .i64 r) ∧ Below w.heap.size w w' := by
 have F0 := Try.underlying41
 have A0 := zK L
 have B0 := zK M
 clear L M
 have HB := zK (Below.refl w.heap.size w)
 have H : (if l = 0 then (none) else (some (wrap64 (Int.tdiv (wrap64 ((wrap64 (U + l)) - 1)) l)))) = some r := h
 clear h
 by_cases O : l = 0
 · rw [if_pos O] at H
   exact absurd H (by simp)
 rw [if_neg O] at H
 have G0 := beq_eq_false_iff_ne.mpr O
 have I0 := bne_iff_ne.mpr O
 obtain rfl := z5 H
 go_enter Try.func42, Try.ntmps42
 go_wp2_with (first | ((with_reducible refine gd 2 rfl ?_); refine zJ 2 #[.int .i64 u, .slice y q.length z, .int .i64 A, .int .i64 B, .int .i64 E, .int .i64 I, .int .i64 l, .int .i64 J] 41 ?_; intro C0 hg w4 hbox hb; have X := z8 hb; have a0 := zK (hbox); have b0 := z9 hg; have c0 := z9 hg; revert X a0 b0 c0; clear HB; intro HB T D0 E0; clear hb hbox hg; obtain ⟨d0, e0, f0, g0, i0, j0, l0, m0, n0, o0, p0, q0, s0, t0, x0, y0⟩ := zc8 T))
 go_ret
 exact ⟨zE, zB⟩
def spec_PagesOf.f (k : Nat) (l : Int) (q : List (S57)) (u : Int) (y : Int) (z : Int) (A : Int) (B : Int) (E : Int) (M : Int) : Option (Int) := (spec_HouseOk.f k l q u y z A B E).bind fun I => (if I = true then ((spec_l5In.f M 0 1000).bind fun J => (if J = true then ((spec_l22Pages.f l q u y z A B E M).bind fun L => (some L)) else (some 0))) else (some 0))
theorem spec_PagesOf.calls (k) (u) (J) (L) (l : List (S57)) (y) (z) (A) (B) (E) (I) (T) (r) (w) (b0 : Kd.C k57 w J l.length l) (c0 : l.length ≤ L) (h : spec_PagesOf.f k u l y z A B E I T = some r) :
 Calls Try.prog 17 #[.agg #[.int .i64 u, .slice J l.length L, .int .i64 y, .int .i64 z, .int .i64 A, .int .i64 B, .int .i64 E, .int .i64 I], .int .i64 T] w fun e w' => e = .returned (.int .i64 r) ∧ Below w.heap.size w w' := by
 have m1 := Try.underlying41
 have d0 := zK b0
 have e0 := zK c0
 clear b0 c0
 have HB := zK (Below.refl w.heap.size w)
 have H : ((spec_HouseOk.f k u l y z A B E I).bind fun U => (if U = true then ((spec_l5In.f T 0 1000).bind fun X => (if X = true then ((spec_l22Pages.f u l y z A B E I T).bind fun a0 => (some a0)) else (some 0))) else (some 0))) = some r := h
 clear h
 replace H := z6 H
 obtain ⟨U, i0, H⟩ := H
 have A3 := zK i0
 clear i0
 rcases zN (U = true) with c4 | c4
 replace c4 := Bool.eq_false_iff.mpr c4
 subst c4
 rw [if_neg (show ¬ (false = true) by decide)] at H
 obtain rfl := z5 H
 rotate_left
 subst c4
 rw [if_pos rfl] at H
 replace H := z6 H
 obtain ⟨X, j0, H⟩ := H
 have A5 := zK j0
 clear j0
 rcases zN (X = true) with c6 | c6
 replace c6 := Bool.eq_false_iff.mpr c6
 subst c6
 rw [if_neg (show ¬ (false = true) by decide)] at H
 obtain rfl := z5 H
 rotate_left
 subst c6
 rw [if_pos rfl] at H
 replace H := z6 H
 obtain ⟨a0, l0, H⟩ := H
 have A7 := zK l0
 clear l0
 obtain rfl := z5 H
 all_goals go_enter Try.func17, Try.ntmps17
 all_goals go_wp2_with (first | ((with_reducible refine gd 2 rfl ?_); refine zJ 2 #[.int .i64 u, .slice J l.length L, .int .i64 y, .int .i64 z, .int .i64 A, .int .i64 B, .int .i64 E, .int .i64 I] 41 ?_; intro i1 hg w8 hbox hb; have M := z8 hb; have O := zK (hbox); have I0 := z9 hg; have J0 := z9 hg; revert M O I0 J0; clear HB; intro HB q j1 l1; clear hb hbox hg; obtain ⟨L0, M0, N0, O0, R0, S0, T0, U0, V0, X0, b1, c1, d1, e1, f1, g1⟩ := zc8 q) | ((with_reducible refine gc 13 rfl ?_); refine zF 6 Try.func13 #[.agg #[.int .i64 u, .slice J l.length L, .int .i64 y, .int .i64 z, .int .i64 A, .int .i64 B, .int .i64 E, .int .i64 I]] rfl zL ?_; refine (spec_HouseOk.calls k u _ _ l y z A B E I _ _ (zS d0) e0.out A3.out).mono ?_; rintro e q1 ⟨rfl, hb⟩; refine ⟨_, rfl, ?_⟩; have M := z7 q hb; have O := z8 hb; revert M O; clear q HB; intro q HB) | (go_at_call 27; (with_reducible refine (spec_l5In.calls T 0 1000 _ _ A5.out).mono ?_); rintro e w' ⟨rfl, ⟨nd, rfl⟩⟩; obtain ⟨m0, n0, o0, p0, q0, s0, t0, x0, y0, A0, B0, C0, D0, E0, F0, G0⟩ := zc8 q) | ((with_reducible refine gc 42 rfl ?_); refine zF 15 Try.func42 #[.agg #[.int .i64 u, .slice J l.length L, .int .i64 y, .int .i64 z, .int .i64 A, .int .i64 B, .int .i64 E, .int .i64 I], .int .i64 T] rfl zL ?_; refine (spec_l22Pages.calls u _ _ l y z A B E I T a0 _ (zS d0) e0.out A7.out).mono ?_; rintro e s1 ⟨rfl, hb⟩; refine ⟨_, rfl, ?_⟩; have M := z7 q hb; have O := z8 hb; revert M O; clear q HB; intro q HB))
 all_goals go_ret
 all_goals exact ⟨zE, zB⟩
def impl_within.f (l : Int) (q : Int) (u : Int) : Option (Bool) := if l ≥ q then (some (decide (l ≤ u))) else (some false)
theorem impl_within.calls (q) (u) (y) (r : Bool) (w) (h : impl_within.f q u y = some r) :
 Calls Try.prog 32 #[.int .i64 q, .int .i64 u, .int .i64 y] w fun e w' => e = .returned (.bool r) ∧ Drawn0 w w' := by
 have H : (if q ≥ u then (some (decide (q ≤ y))) else (some false)) = some r := h
 clear h
 by_cases l : q ≥ u
 · rw [if_pos l] at H
   have z := z1 l
   clear l
   obtain rfl := z5 H
   go_enter Try.func32, Try.ntmps32
   go_wp2
   go_ret
   exact ⟨zR, zD⟩
 rw [if_neg l] at H
 have z := z2 l
 clear l
 obtain rfl := z5 H
 go_enter Try.func32, Try.ntmps32
 go_wp2
 go_ret
 exact ⟨zR, zD⟩
end Go.Proofs.Ytdlhmhgpafegpaa.PFnExactPagesOf
