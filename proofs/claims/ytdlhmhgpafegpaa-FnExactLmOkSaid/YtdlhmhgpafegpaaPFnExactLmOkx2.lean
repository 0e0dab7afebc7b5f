-- Printed out of the translation by this session's own turned copy of a printer; Lean checks it.
import Derived.Test.YtdlhmhgpafegpaaPFnExactLmOkx0
import Derived.Test.YtdlhmhgpafegpaaPFnExactLmOkx1
namespace Go.Proofs.Ytdlhmhgpafegpaa.PFnExactLmOk
open Go.RowKit Go.Proofs.YtdlhmhgpafegpaaW.PrintWords Go.Proofs.YtdlhmhgpafegpaaW.PrintLast Go.Proofs.YtdlhmhgpafegpaaW.PrintMore
attribute [local go_sem] max2_int min2_int max_two min_two max_three min_three max_four min_four
set_option linter.unusedVariables false
set_option linter.unusedSimpArgs false
set_option maxHeartbeats 8000000
set_option maxRecDepth 100000
mutual
def spec_LmOk.l0 : Nat → Bool → Int → Int → List (S57) → Option (Bool)
 | 0, _, _, _, _ => none
 | k + 1, y, q, l, a => if q < (a.length : Int) then (if 0 ≤ q then (if (((rd_T57 a q).f0).length : Int) > 4 then (some false) else ((spec_l21Tokens.f k ((rd_T57 a q).f0) l).bind fun u => (if u = true then (if (((rd_T57 a q).f1).length : Int) = l then ((spec_l21Weights.f k ((rd_T57 a q).f1)).bind fun x => (if x = true then (spec_LmOk.l1 k y q 0 l a ((rd_T57 a q).f0) ((rd_T57 a q).f1)) else (some false))) else (some false)) else (some false)))) else (none)) else (some y)
def spec_LmOk.l1 : Nat → Bool → Int → Int → Int → List (S57) → List Int → List Int → Option (Bool)
 | 0, _, _, _, _, _, _, _ => none
 | k + 1, A, y, x, l, a, q, u => if x < y then (if 0 ≤ x then (if x < (a.length : Int) then ((spec_l3SameInts.f k ((rd_T57 a x).f0) q).bind fun z => (if z = true then (some false) else (spec_LmOk.l1 k A y (wrap64 (x + 1)) l a q u))) else (none)) else (none)) else (if A = true then (spec_LmOk.l0 k true (wrap64 (y + 1)) l a) else (spec_LmOk.l0 k ((q.length : Int) == 0) (wrap64 (y + 1)) l a))
end
def spec_LmOk.f (k : Nat) (a : Int) (l : List (S57)) : Option (Bool) := (spec_l5In.f a 1 64).bind fun q => (if q = true then (if (l.length : Int) > 500 then (some false) else (spec_LmOk.l0 k false 0 a l)) else (some false))
theorem spec_LmOk.calls (k) (B) (C0) (p0) (l : List (S57)) (r : Bool) (w) (V2 : Kd.C k57 w C0 l.length l) (X2 : l.length ≤ p0) (h : spec_LmOk.f k B l = some r) :
 Calls Try.prog 8 #[.agg #[.int .i64 B, .slice C0 l.length p0]] w fun e w' => e = .returned (.bool r) ∧ Below w.heap.size w w' := by
 have E5 := Try.underlying29
 have F5 := Try.underlying57
 have N0 := zK V2
 have q5 := zK X2
 clear V2 X2
 have HB := zK (Below.refl w.heap.size w)
 have H : ((spec_l5In.f B 1 64).bind fun N2 => (if N2 = true then (if (l.length : Int) > 500 then (some false) else (spec_LmOk.l0 k false 0 B l)) else (some false))) = some r := h
 clear h
 replace H := z6 H
 obtain ⟨N2, d4, H⟩ := H
 have A2 := zK d4
 clear d4
 by_cases c3 : N2 = true
 rotate_left
 · replace c3 := Bool.eq_false_iff.mpr c3
   subst c3
   rw [if_neg (show ¬ (false = true) by decide)] at H
   obtain rfl := z5 H
   go_enter Try.func8, Try.ntmps8
   go_wp2_with (first | ((with_reducible refine gd 1 rfl ?_); (try (refine gate_guard (by rfl) ?_; dsimp only)); refine zJ 1 #[.int .i64 B, .slice C0 l.length p0] 29 ?_; intro t0 hg e4 hbox hb; have D := z8 hb; have E := zK (hbox); have I := z9 hg; have J := z9 hg; revert D E I J; clear HB; intro HB a D0 E0; clear hb hbox hg; obtain ⟨I1, J1, L1, M1⟩ := zc2 a) | (go_at_call 27; (with_reducible refine (spec_l5In.calls B 1 64 false _ A2.out).mono ?_); rintro e w' ⟨rfl, ⟨nd, rfl⟩⟩; (try first | exact ⟨rfl, _, World.drewN_drewN _ _ _⟩ | exact ⟨rfl, _, Eq.trans (World.drewN_drewN _ _ _) (congrArg (World.drewN _) (Nat.add_assoc _ _ _))⟩)))
   repeat (go_quiet (first | ((with_reducible refine gd 1 rfl ?_); (try (refine gate_guard (by rfl) ?_; dsimp only)); refine zJ 1 #[.int .i64 B, .slice C0 l.length p0] 29 ?_; intro t0 hg e4 hbox hb; have D := z8 hb; have E := zK (hbox); have I := z9 hg; have J := z9 hg; revert D E I J; clear HB; intro HB a D0 E0; clear hb hbox hg; obtain ⟨I1, J1, L1, M1⟩ := zc2 a) | (go_at_call 27; (with_reducible refine (spec_l5In.calls B 1 64 false _ A2.out).mono ?_); rintro e w' ⟨rfl, ⟨nd, rfl⟩⟩; (try first | exact ⟨rfl, _, World.drewN_drewN _ _ _⟩ | exact ⟨rfl, _, Eq.trans (World.drewN_drewN _ _ _) (congrArg (World.drewN _) (Nat.add_assoc _ _ _))⟩))); try go_wp2_with (first | ((with_reducible refine gd 1 rfl ?_); (try (refine gate_guard (by rfl) ?_; dsimp only)); refine zJ 1 #[.int .i64 B, .slice C0 l.length p0] 29 ?_; intro t0 hg e4 hbox hb; have D := z8 hb; have E := zK (hbox); have I := z9 hg; have J := z9 hg; revert D E I J; clear HB; intro HB a D0 E0; clear hb hbox hg; obtain ⟨I1, J1, L1, M1⟩ := zc2 a) | (go_at_call 27; (with_reducible refine (spec_l5In.calls B 1 64 false _ A2.out).mono ?_); rintro e w' ⟨rfl, ⟨nd, rfl⟩⟩; (try first | exact ⟨rfl, _, World.drewN_drewN _ _ _⟩ | exact ⟨rfl, _, Eq.trans (World.drewN_drewN _ _ _) (congrArg (World.drewN _) (Nat.add_assoc _ _ _))⟩))))
   go_ret
   exact ⟨zE, zB⟩
 subst c3
 rw [if_pos rfl] at H
 by_cases c4 : (l.length : Int) > 500
 · rw [if_pos c4] at H
   have O2 := z1 c4
   have R2 : decide (500 < l.length) = true := z1 (by omega)
   clear c4
   obtain rfl := z5 H
   go_enter Try.func8, Try.ntmps8
   go_wp2_with (first | ((with_reducible refine gd 1 rfl ?_); (try (refine gate_guard (by rfl) ?_; dsimp only)); refine zJ 1 #[.int .i64 B, .slice C0 l.length p0] 29 ?_; intro t0 hg w5 hbox hb; have D := z8 hb; have E := zK (hbox); have I := z9 hg; have J := z9 hg; revert D E I J; clear HB; intro HB a D0 E0; clear hb hbox hg; obtain ⟨V0, X0, a1, b1⟩ := zc2 a) | (go_at_call 27; (with_reducible refine (spec_l5In.calls B 1 64 true _ A2.out).mono ?_); rintro e w' ⟨rfl, ⟨nd, rfl⟩⟩; (try first | exact ⟨rfl, _, World.drewN_drewN _ _ _⟩ | exact ⟨rfl, _, Eq.trans (World.drewN_drewN _ _ _) (congrArg (World.drewN _) (Nat.add_assoc _ _ _))⟩)))
   repeat (go_quiet (first | ((with_reducible refine gd 1 rfl ?_); (try (refine gate_guard (by rfl) ?_; dsimp only)); refine zJ 1 #[.int .i64 B, .slice C0 l.length p0] 29 ?_; intro t0 hg w5 hbox hb; have D := z8 hb; have E := zK (hbox); have I := z9 hg; have J := z9 hg; revert D E I J; clear HB; intro HB a D0 E0; clear hb hbox hg; obtain ⟨V0, X0, a1, b1⟩ := zc2 a) | (go_at_call 27; (with_reducible refine (spec_l5In.calls B 1 64 true _ A2.out).mono ?_); rintro e w' ⟨rfl, ⟨nd, rfl⟩⟩; (try first | exact ⟨rfl, _, World.drewN_drewN _ _ _⟩ | exact ⟨rfl, _, Eq.trans (World.drewN_drewN _ _ _) (congrArg (World.drewN _) (Nat.add_assoc _ _ _))⟩))); try go_wp2_with (first | ((with_reducible refine gd 1 rfl ?_); (try (refine gate_guard (by rfl) ?_; dsimp only)); refine zJ 1 #[.int .i64 B, .slice C0 l.length p0] 29 ?_; intro t0 hg w5 hbox hb; have D := z8 hb; have E := zK (hbox); have I := z9 hg; have J := z9 hg; revert D E I J; clear HB; intro HB a D0 E0; clear hb hbox hg; obtain ⟨V0, X0, a1, b1⟩ := zc2 a) | (go_at_call 27; (with_reducible refine (spec_l5In.calls B 1 64 true _ A2.out).mono ?_); rintro e w' ⟨rfl, ⟨nd, rfl⟩⟩; (try first | exact ⟨rfl, _, World.drewN_drewN _ _ _⟩ | exact ⟨rfl, _, Eq.trans (World.drewN_drewN _ _ _) (congrArg (World.drewN _) (Nat.add_assoc _ _ _))⟩))))
   go_ret
   exact ⟨zE, zB⟩
 rw [if_neg c4] at H
 have O2 := z2 c4
 have R2 : decide (500 < l.length) = false := z2 (by omega)
 clear c4
 have H' := zK H
 clear H
 go_enter Try.func8, Try.ntmps8
 go_wp2_with (first | ((with_reducible refine gd 1 rfl ?_); (try (refine gate_guard (by rfl) ?_; dsimp only)); refine zJ 1 #[.int .i64 B, .slice C0 l.length p0] 29 ?_; intro t0 hg w7 hbox hb; have D := z8 hb; have E := zK (hbox); have I := z9 hg; have J := z9 hg; revert D E I J; clear HB; intro HB a D0 E0; clear hb hbox hg; obtain ⟨d1, e1, g1, i1⟩ := zc2 a) | (go_at_call 27; (with_reducible refine (spec_l5In.calls B 1 64 true _ A2.out).mono ?_); rintro e w' ⟨rfl, ⟨nd, rfl⟩⟩; (try first | exact ⟨rfl, _, World.drewN_drewN _ _ _⟩ | exact ⟨rfl, _, Eq.trans (World.drewN_drewN _ _ _) (congrArg (World.drewN _) (Nat.add_assoc _ _ _))⟩)))
 repeat (go_quiet (first | ((with_reducible refine gd 1 rfl ?_); (try (refine gate_guard (by rfl) ?_; dsimp only)); refine zJ 1 #[.int .i64 B, .slice C0 l.length p0] 29 ?_; intro t0 hg w7 hbox hb; have D := z8 hb; have E := zK (hbox); have I := z9 hg; have J := z9 hg; revert D E I J; clear HB; intro HB a D0 E0; clear hb hbox hg; obtain ⟨d1, e1, g1, i1⟩ := zc2 a) | (go_at_call 27; (with_reducible refine (spec_l5In.calls B 1 64 true _ A2.out).mono ?_); rintro e w' ⟨rfl, ⟨nd, rfl⟩⟩; (try first | exact ⟨rfl, _, World.drewN_drewN _ _ _⟩ | exact ⟨rfl, _, Eq.trans (World.drewN_drewN _ _ _) (congrArg (World.drewN _) (Nat.add_assoc _ _ _))⟩))); try go_wp2_with (first | ((with_reducible refine gd 1 rfl ?_); (try (refine gate_guard (by rfl) ?_; dsimp only)); refine zJ 1 #[.int .i64 B, .slice C0 l.length p0] 29 ?_; intro t0 hg w7 hbox hb; have D := z8 hb; have E := zK (hbox); have I := z9 hg; have J := z9 hg; revert D E I J; clear HB; intro HB a D0 E0; clear hb hbox hg; obtain ⟨d1, e1, g1, i1⟩ := zc2 a) | (go_at_call 27; (with_reducible refine (spec_l5In.calls B 1 64 true _ A2.out).mono ?_); rintro e w' ⟨rfl, ⟨nd, rfl⟩⟩; (try first | exact ⟨rfl, _, World.drewN_drewN _ _ _⟩ | exact ⟨rfl, _, Eq.trans (World.drewN_drewN _ _ _) (congrArg (World.drewN _) (Nat.add_assoc _ _ _))⟩))))
 go_loopg [3, 4] k (fun kq v3 v4 w' => ∃ (F1 : Bool) (x : Int), v3 = .bool F1 ∧ v4 = .int .i64 x ∧ Aside0 (spec_LmOk.l0 kq F1 x B l = some r) ∧ Aside0 (kq ≤ k) ∧ Aside0 (w'.heap[t0]? = some (.cells #[.int .i64 B, (.slice C0 l.length p0)] 29 (0, 0))) ∧ Aside0 (Below w.heap.size w w'))
 case atStart => exact ⟨(false), (0), zR, zR, H', ⟨Nat.le_refl _⟩, ⟨zM a⟩, ⟨zB⟩⟩
 clear H'
 try clear p2
 try clear c3
 try clear c4
 try clear O2
 try clear R2
 try clear c8
 try clear V0 X0 a1 b1
 try clear d1 e1 g1 i1
 obtain ⟨F1, x, rfl, rfl, HA, N1, a, HB⟩ := hrel
 rcases gk with _ | k1
 · exact absurd HA.out (by simp [spec_LmOk.l0])
 have H := HA.out
 clear HA
 simp only [spec_LmOk.l0] at H
 by_cases c9 : x < (l.length : Int)
 rotate_left
 · rw [if_neg c9] at H
   have N3 := z2 c9
   clear c9
   obtain rfl := z5 H
   obtain ⟨p4, q4, s4, t4⟩ := zc2 a
   go_wp2
   repeat (go_quiet (fail); try go_wp2)
   go_ret
   exact ⟨zE, zB⟩
 rw [if_pos c9] at H
 have N3 := z1 c9
 clear c9
 by_cases J2 : 0 ≤ x
 rotate_left
 · rw [if_neg J2] at H
   exact absurd H (by simp)
 rw [if_pos J2] at H
 have a4 := z1 J2
 clear J2
 by_cases G1 : (((rd_T57 l x).f0).length : Int) > 4
 · rw [if_pos G1] at H
   have a3 := z1 G1
   have b3 : decide (4 < ((rd_T57 l x).f0).length) = true := z1 (by omega)
   clear G1
   obtain rfl := z5 H
   obtain ⟨B3, C3, D3, E3⟩ := zc2 a
   have e0 : 0 ≤ (x : Int) := z3
   have g0 : x < (l.length : Int) := z3
   obtain ⟨O0, x0, y0, A0, B0, R0, L, M, T, U, X, a0⟩ := at_T57 N0.out x e0 g0
   cases R0
   (try replace L := zX HB L)
   (try replace M := zX HB M)
   have z := zK U
   have A := zK T
   clear U T
   have j0 := zK a0
   have m0 := zK X
   clear a0 X
   replace e0 := eq_true e0
   replace g0 := eq_true g0
   go_wp2_with (first | ((with_reducible refine gd 5 rfl ?_); (try (refine gate_guard (by rfl) ?_; dsimp only)); refine zJ 5 #[.slice none 0 0, .slice none 0 0] 57 ?_; intro O hg f4 hbox hb; have D := z7 a hb; have E := z8 hb; have I := zK (hbox); have J := z9 hg; have b0 := z9 hg; have c0 := zHH hg a; have d0 := zGG hg a; revert D E I J b0 c0 d0; clear a HB; intro a HB y n0 o0 q u; clear hb hbox hg; have d3 := u.out; have e3 := q.out; obtain ⟨j1, m1, n1, o1⟩ := zc2 y))
   repeat (go_quiet (first | ((with_reducible refine gd 5 rfl ?_); (try (refine gate_guard (by rfl) ?_; dsimp only)); refine zJ 5 #[.slice none 0 0, .slice none 0 0] 57 ?_; intro O hg f4 hbox hb; have D := z7 a hb; have E := z8 hb; have I := zK (hbox); have J := z9 hg; have b0 := z9 hg; have c0 := zHH hg a; have d0 := zGG hg a; revert D E I J b0 c0 d0; clear a HB; intro a HB y n0 o0 q u; clear hb hbox hg; have d3 := u.out; have e3 := q.out; obtain ⟨j1, m1, n1, o1⟩ := zc2 y)); try go_wp2_with (first | ((with_reducible refine gd 5 rfl ?_); (try (refine gate_guard (by rfl) ?_; dsimp only)); refine zJ 5 #[.slice none 0 0, .slice none 0 0] 57 ?_; intro O hg f4 hbox hb; have D := z7 a hb; have E := z8 hb; have I := zK (hbox); have J := z9 hg; have b0 := z9 hg; have c0 := zHH hg a; have d0 := zGG hg a; revert D E I J b0 c0 d0; clear a HB; intro a HB y n0 o0 q u; clear hb hbox hg; have d3 := u.out; have e3 := q.out; obtain ⟨j1, m1, n1, o1⟩ := zc2 y)))
   go_ret
   exact ⟨zE, zB⟩
 rw [if_neg G1] at H
 have a3 := z2 G1
 have b3 : decide (4 < ((rd_T57 l x).f0).length) = false := z2 (by omega)
 clear G1
 replace H := z6 H
 obtain ⟨m4, O3, H⟩ := H
 have S0 := zK O3
 clear O3
 by_cases L2 : m4 = true
 rotate_left
 · replace L2 := Bool.eq_false_iff.mpr L2
   subst L2
   rw [if_neg (show ¬ (false = true) by decide)] at H
   obtain rfl := z5 H
   obtain ⟨x4, y4, A4, B4⟩ := zc2 a
   have e0 : 0 ≤ (x : Int) := z3
   have g0 : x < (l.length : Int) := z3
   obtain ⟨O0, x0, y0, A0, B0, R0, L, M, T, U, X, a0⟩ := at_T57 N0.out x e0 g0
   cases R0
   (try replace L := zX HB L)
   (try replace M := zX HB M)
   have z := zK U
   have A := zK T
   clear U T
   have j0 := zK a0
   have m0 := zK X
   clear a0 X
   replace e0 := eq_true e0
   replace g0 := eq_true g0
   go_wp2_with (first | ((with_reducible refine gd 5 rfl ?_); (try (refine gate_guard (by rfl) ?_; dsimp only)); refine zJ 5 #[.slice none 0 0, .slice none 0 0] 57 ?_; intro O hg g4 hbox hb; have D := z7 a hb; have E := z8 hb; have I := zK (hbox); have J := z9 hg; have b0 := z9 hg; have c0 := zHH hg a; have d0 := zGG hg a; revert D E I J b0 c0 d0; clear a HB; intro a HB y n0 o0 q u; clear hb hbox hg; have f3 := u.out; have g3 := q.out; obtain ⟨O1, R1, S1, T1⟩ := zc2 y; obtain ⟨U1, V1, X1, a2⟩ := zc2 a) | (go_at_call 28; (with_reducible refine (spec_l21Tokens.calls k1 _ _ ((rd_T57 l x).f0) B false _ ?side1 ?side2 S0.out).mono ?_); (case side1 => exact z4 z.out zB); (case side2 => exact A.out); rintro e w' ⟨rfl, ⟨nd, rfl⟩⟩; (try first | exact ⟨rfl, _, World.drewN_drewN _ _ _⟩ | exact ⟨rfl, _, Eq.trans (World.drewN_drewN _ _ _) (congrArg (World.drewN _) (Nat.add_assoc _ _ _))⟩)))
   repeat (go_quiet (first | ((with_reducible refine gd 5 rfl ?_); (try (refine gate_guard (by rfl) ?_; dsimp only)); refine zJ 5 #[.slice none 0 0, .slice none 0 0] 57 ?_; intro O hg g4 hbox hb; have D := z7 a hb; have E := z8 hb; have I := zK (hbox); have J := z9 hg; have b0 := z9 hg; have c0 := zHH hg a; have d0 := zGG hg a; revert D E I J b0 c0 d0; clear a HB; intro a HB y n0 o0 q u; clear hb hbox hg; have f3 := u.out; have g3 := q.out; obtain ⟨O1, R1, S1, T1⟩ := zc2 y; obtain ⟨U1, V1, X1, a2⟩ := zc2 a) | (go_at_call 28; (with_reducible refine (spec_l21Tokens.calls k1 _ _ ((rd_T57 l x).f0) B false _ ?side1 ?side2 S0.out).mono ?_); (case side1 => exact z4 z.out zB); (case side2 => exact A.out); rintro e w' ⟨rfl, ⟨nd, rfl⟩⟩; (try first | exact ⟨rfl, _, World.drewN_drewN _ _ _⟩ | exact ⟨rfl, _, Eq.trans (World.drewN_drewN _ _ _) (congrArg (World.drewN _) (Nat.add_assoc _ _ _))⟩))); try go_wp2_with (first | ((with_reducible refine gd 5 rfl ?_); (try (refine gate_guard (by rfl) ?_; dsimp only)); refine zJ 5 #[.slice none 0 0, .slice none 0 0] 57 ?_; intro O hg g4 hbox hb; have D := z7 a hb; have E := z8 hb; have I := zK (hbox); have J := z9 hg; have b0 := z9 hg; have c0 := zHH hg a; have d0 := zGG hg a; revert D E I J b0 c0 d0; clear a HB; intro a HB y n0 o0 q u; clear hb hbox hg; have f3 := u.out; have g3 := q.out; obtain ⟨O1, R1, S1, T1⟩ := zc2 y; obtain ⟨U1, V1, X1, a2⟩ := zc2 a) | (go_at_call 28; (with_reducible refine (spec_l21Tokens.calls k1 _ _ ((rd_T57 l x).f0) B false _ ?side1 ?side2 S0.out).mono ?_); (case side1 => exact z4 z.out zB); (case side2 => exact A.out); rintro e w' ⟨rfl, ⟨nd, rfl⟩⟩; (try first | exact ⟨rfl, _, World.drewN_drewN _ _ _⟩ | exact ⟨rfl, _, Eq.trans (World.drewN_drewN _ _ _) (congrArg (World.drewN _) (Nat.add_assoc _ _ _))⟩))))
   go_ret
   exact ⟨zE, zB⟩
 subst L2
 rw [if_pos rfl] at H
 by_cases E1 : (((rd_T57 l x).f1).length : Int) = B
 rotate_left
 · rw [if_neg E1] at H
   have i3 := beq_eq_false_iff_ne.mpr E1
   have j3 := bne_iff_ne.mpr E1
   obtain rfl := z5 H
   obtain ⟨C4, D4, E4, F4⟩ := zc2 a
   have e0 : 0 ≤ (x : Int) := z3
   have g0 : x < (l.length : Int) := z3
   obtain ⟨O0, x0, y0, A0, B0, R0, L, M, T, U, X, a0⟩ := at_T57 N0.out x e0 g0
   cases R0
   (try replace L := zX HB L)
   (try replace M := zX HB M)
   have z := zK U
   have A := zK T
   clear U T
   have j0 := zK a0
   have m0 := zK X
   clear a0 X
   replace e0 := eq_true e0
   replace g0 := eq_true g0
   go_wp2_with (first | ((with_reducible refine gd 5 rfl ?_); (try (refine gate_guard (by rfl) ?_; dsimp only)); refine zJ 5 #[.slice none 0 0, .slice none 0 0] 57 ?_; intro O hg i4 hbox hb; have D := z7 a hb; have E := z8 hb; have I := zK (hbox); have J := z9 hg; have b0 := z9 hg; have c0 := zHH hg a; have d0 := zGG hg a; revert D E I J b0 c0 d0; clear a HB; intro a HB y n0 o0 q u; clear hb hbox hg; have l3 := u.out; have m3 := q.out; obtain ⟨b2, d2, e2, f2⟩ := zc2 y; obtain ⟨g2, i2, j2, l2⟩ := zc2 a) | (go_at_call 28; (with_reducible refine (spec_l21Tokens.calls k1 _ _ ((rd_T57 l x).f0) B true _ ?side1 ?side2 S0.out).mono ?_); (case side1 => exact z4 z.out zB); (case side2 => exact A.out); rintro e w' ⟨rfl, ⟨nd, rfl⟩⟩; (try first | exact ⟨rfl, _, World.drewN_drewN _ _ _⟩ | exact ⟨rfl, _, Eq.trans (World.drewN_drewN _ _ _) (congrArg (World.drewN _) (Nat.add_assoc _ _ _))⟩)))
   repeat (go_quiet (first | ((with_reducible refine gd 5 rfl ?_); (try (refine gate_guard (by rfl) ?_; dsimp only)); refine zJ 5 #[.slice none 0 0, .slice none 0 0] 57 ?_; intro O hg i4 hbox hb; have D := z7 a hb; have E := z8 hb; have I := zK (hbox); have J := z9 hg; have b0 := z9 hg; have c0 := zHH hg a; have d0 := zGG hg a; revert D E I J b0 c0 d0; clear a HB; intro a HB y n0 o0 q u; clear hb hbox hg; have l3 := u.out; have m3 := q.out; obtain ⟨b2, d2, e2, f2⟩ := zc2 y; obtain ⟨g2, i2, j2, l2⟩ := zc2 a) | (go_at_call 28; (with_reducible refine (spec_l21Tokens.calls k1 _ _ ((rd_T57 l x).f0) B true _ ?side1 ?side2 S0.out).mono ?_); (case side1 => exact z4 z.out zB); (case side2 => exact A.out); rintro e w' ⟨rfl, ⟨nd, rfl⟩⟩; (try first | exact ⟨rfl, _, World.drewN_drewN _ _ _⟩ | exact ⟨rfl, _, Eq.trans (World.drewN_drewN _ _ _) (congrArg (World.drewN _) (Nat.add_assoc _ _ _))⟩))); try go_wp2_with (first | ((with_reducible refine gd 5 rfl ?_); (try (refine gate_guard (by rfl) ?_; dsimp only)); refine zJ 5 #[.slice none 0 0, .slice none 0 0] 57 ?_; intro O hg i4 hbox hb; have D := z7 a hb; have E := z8 hb; have I := zK (hbox); have J := z9 hg; have b0 := z9 hg; have c0 := zHH hg a; have d0 := zGG hg a; revert D E I J b0 c0 d0; clear a HB; intro a HB y n0 o0 q u; clear hb hbox hg; have l3 := u.out; have m3 := q.out; obtain ⟨b2, d2, e2, f2⟩ := zc2 y; obtain ⟨g2, i2, j2, l2⟩ := zc2 a) | (go_at_call 28; (with_reducible refine (spec_l21Tokens.calls k1 _ _ ((rd_T57 l x).f0) B true _ ?side1 ?side2 S0.out).mono ?_); (case side1 => exact z4 z.out zB); (case side2 => exact A.out); rintro e w' ⟨rfl, ⟨nd, rfl⟩⟩; (try first | exact ⟨rfl, _, World.drewN_drewN _ _ _⟩ | exact ⟨rfl, _, Eq.trans (World.drewN_drewN _ _ _) (congrArg (World.drewN _) (Nat.add_assoc _ _ _))⟩))))
   go_ret
   exact ⟨zE, zB⟩
 rw [if_pos E1] at H
 have i3 := beq_iff_eq.mpr E1
 have j3 := bne_eq_false_iff_eq.mpr E1
 clear E1
 replace H := z6 H
 obtain ⟨n4, R3, H⟩ := H
 have m2 := zK R3
 clear R3
 by_cases M2 : n4 = true
 rotate_left
 · replace M2 := Bool.eq_false_iff.mpr M2
   subst M2
   rw [if_neg (show ¬ (false = true) by decide)] at H
   obtain rfl := z5 H
   obtain ⟨G4, I4, J4, L4⟩ := zc2 a
   have e0 : 0 ≤ (x : Int) := z3
   have g0 : x < (l.length : Int) := z3
   obtain ⟨O0, x0, y0, A0, B0, R0, L, M, T, U, X, a0⟩ := at_T57 N0.out x e0 g0
   cases R0
   (try replace L := zX HB L)
   (try replace M := zX HB M)
   have z := zK U
   have A := zK T
   clear U T
   have j0 := zK a0
   have m0 := zK X
   clear a0 X
   replace e0 := eq_true e0
   replace g0 := eq_true g0
   go_wp2_with (first | ((with_reducible refine gd 5 rfl ?_); (try (refine gate_guard (by rfl) ?_; dsimp only)); refine zJ 5 #[.slice none 0 0, .slice none 0 0] 57 ?_; intro O hg j4 hbox hb; have D := z7 a hb; have E := z8 hb; have I := zK (hbox); have J := z9 hg; have b0 := z9 hg; have c0 := zHH hg a; have d0 := zGG hg a; revert D E I J b0 c0 d0; clear a HB; intro a HB y n0 o0 q u; clear hb hbox hg; have n3 := u.out; have o3 := q.out; obtain ⟨n2, o2, q2, s2⟩ := zc2 y; obtain ⟨t2, x2, y2, B2⟩ := zc2 a) | (go_at_call 28; (with_reducible refine (spec_l21Tokens.calls k1 _ _ ((rd_T57 l x).f0) B true _ ?side1 ?side2 S0.out).mono ?_); (case side1 => exact z4 z.out zB); (case side2 => exact A.out); rintro e w' ⟨rfl, ⟨nd, rfl⟩⟩; (try first | exact ⟨rfl, _, World.drewN_drewN _ _ _⟩ | exact ⟨rfl, _, Eq.trans (World.drewN_drewN _ _ _) (congrArg (World.drewN _) (Nat.add_assoc _ _ _))⟩)) | (go_at_call 29; (with_reducible refine (spec_l21Weights.calls k1 _ _ ((rd_T57 l x).f1) false _ ?side1 ?side2 m2.out).mono ?_); (case side1 => exact z4 j0.out zB); (case side2 => exact m0.out); rintro e w' ⟨rfl, ⟨nd, rfl⟩⟩; (try first | exact ⟨rfl, _, World.drewN_drewN _ _ _⟩ | exact ⟨rfl, _, Eq.trans (World.drewN_drewN _ _ _) (congrArg (World.drewN _) (Nat.add_assoc _ _ _))⟩)))
   repeat (go_quiet (first | ((with_reducible refine gd 5 rfl ?_); (try (refine gate_guard (by rfl) ?_; dsimp only)); refine zJ 5 #[.slice none 0 0, .slice none 0 0] 57 ?_; intro O hg j4 hbox hb; have D := z7 a hb; have E := z8 hb; have I := zK (hbox); have J := z9 hg; have b0 := z9 hg; have c0 := zHH hg a; have d0 := zGG hg a; revert D E I J b0 c0 d0; clear a HB; intro a HB y n0 o0 q u; clear hb hbox hg; have n3 := u.out; have o3 := q.out; obtain ⟨n2, o2, q2, s2⟩ := zc2 y; obtain ⟨t2, x2, y2, B2⟩ := zc2 a) | (go_at_call 28; (with_reducible refine (spec_l21Tokens.calls k1 _ _ ((rd_T57 l x).f0) B true _ ?side1 ?side2 S0.out).mono ?_); (case side1 => exact z4 z.out zB); (case side2 => exact A.out); rintro e w' ⟨rfl, ⟨nd, rfl⟩⟩; (try first | exact ⟨rfl, _, World.drewN_drewN _ _ _⟩ | exact ⟨rfl, _, Eq.trans (World.drewN_drewN _ _ _) (congrArg (World.drewN _) (Nat.add_assoc _ _ _))⟩)) | (go_at_call 29; (with_reducible refine (spec_l21Weights.calls k1 _ _ ((rd_T57 l x).f1) false _ ?side1 ?side2 m2.out).mono ?_); (case side1 => exact z4 j0.out zB); (case side2 => exact m0.out); rintro e w' ⟨rfl, ⟨nd, rfl⟩⟩; (try first | exact ⟨rfl, _, World.drewN_drewN _ _ _⟩ | exact ⟨rfl, _, Eq.trans (World.drewN_drewN _ _ _) (congrArg (World.drewN _) (Nat.add_assoc _ _ _))⟩))); try go_wp2_with (first | ((with_reducible refine gd 5 rfl ?_); (try (refine gate_guard (by rfl) ?_; dsimp only)); refine zJ 5 #[.slice none 0 0, .slice none 0 0] 57 ?_; intro O hg j4 hbox hb; have D := z7 a hb; have E := z8 hb; have I := zK (hbox); have J := z9 hg; have b0 := z9 hg; have c0 := zHH hg a; have d0 := zGG hg a; revert D E I J b0 c0 d0; clear a HB; intro a HB y n0 o0 q u; clear hb hbox hg; have n3 := u.out; have o3 := q.out; obtain ⟨n2, o2, q2, s2⟩ := zc2 y; obtain ⟨t2, x2, y2, B2⟩ := zc2 a) | (go_at_call 28; (with_reducible refine (spec_l21Tokens.calls k1 _ _ ((rd_T57 l x).f0) B true _ ?side1 ?side2 S0.out).mono ?_); (case side1 => exact z4 z.out zB); (case side2 => exact A.out); rintro e w' ⟨rfl, ⟨nd, rfl⟩⟩; (try first | exact ⟨rfl, _, World.drewN_drewN _ _ _⟩ | exact ⟨rfl, _, Eq.trans (World.drewN_drewN _ _ _) (congrArg (World.drewN _) (Nat.add_assoc _ _ _))⟩)) | (go_at_call 29; (with_reducible refine (spec_l21Weights.calls k1 _ _ ((rd_T57 l x).f1) false _ ?side1 ?side2 m2.out).mono ?_); (case side1 => exact z4 j0.out zB); (case side2 => exact m0.out); rintro e w' ⟨rfl, ⟨nd, rfl⟩⟩; (try first | exact ⟨rfl, _, World.drewN_drewN _ _ _⟩ | exact ⟨rfl, _, Eq.trans (World.drewN_drewN _ _ _) (congrArg (World.drewN _) (Nat.add_assoc _ _ _))⟩))))
   go_ret
   exact ⟨zE, zB⟩
 subst M2
 rw [if_pos rfl] at H
 have H' := zK H
 clear H
 obtain ⟨F3, G3, I3, J3⟩ := zc2 a
 have e0 : 0 ≤ (x : Int) := z3
 have g0 : x < (l.length : Int) := z3
 obtain ⟨O0, x0, y0, A0, B0, R0, L, M, T, U, X, a0⟩ := at_T57 N0.out x e0 g0
 cases R0
 (try replace L := zX HB L)
 (try replace M := zX HB M)
 have z := zK U
 have A := zK T
 clear U T
 have j0 := zK a0
 have m0 := zK X
 clear a0 X
 replace e0 := eq_true e0
 replace g0 := eq_true g0
 go_wp2_with (first | ((with_reducible refine gd 5 rfl ?_); (try (refine gate_guard (by rfl) ?_; dsimp only)); refine zJ 5 #[.slice none 0 0, .slice none 0 0] 57 ?_; intro O hg l4 hbox hb; have D := z7 a hb; have E := z8 hb; have I := zK (hbox); have J := z9 hg; have b0 := z9 hg; have c0 := zHH hg a; have d0 := zGG hg a; revert D E I J b0 c0 d0; clear a HB; intro a HB y n0 o0 q u; clear hb hbox hg; have p3 := u.out; have q3 := q.out; obtain ⟨s1, t1, x1, y1⟩ := zc2 y; obtain ⟨A1, B1, C1, D1⟩ := zc2 a) | (go_at_call 28; (with_reducible refine (spec_l21Tokens.calls k1 _ _ ((rd_T57 l x).f0) B true _ ?side1 ?side2 S0.out).mono ?_); (case side1 => exact z4 z.out zB); (case side2 => exact A.out); rintro e w' ⟨rfl, ⟨nd, rfl⟩⟩; (try first | exact ⟨rfl, _, World.drewN_drewN _ _ _⟩ | exact ⟨rfl, _, Eq.trans (World.drewN_drewN _ _ _) (congrArg (World.drewN _) (Nat.add_assoc _ _ _))⟩)) | (go_at_call 29; (with_reducible refine (spec_l21Weights.calls k1 _ _ ((rd_T57 l x).f1) true _ ?side1 ?side2 m2.out).mono ?_); (case side1 => exact z4 j0.out zB); (case side2 => exact m0.out); rintro e w' ⟨rfl, ⟨nd, rfl⟩⟩; (try first | exact ⟨rfl, _, World.drewN_drewN _ _ _⟩ | exact ⟨rfl, _, Eq.trans (World.drewN_drewN _ _ _) (congrArg (World.drewN _) (Nat.add_assoc _ _ _))⟩)))
 repeat (go_quiet (first | ((with_reducible refine gd 5 rfl ?_); (try (refine gate_guard (by rfl) ?_; dsimp only)); refine zJ 5 #[.slice none 0 0, .slice none 0 0] 57 ?_; intro O hg l4 hbox hb; have D := z7 a hb; have E := z8 hb; have I := zK (hbox); have J := z9 hg; have b0 := z9 hg; have c0 := zHH hg a; have d0 := zGG hg a; revert D E I J b0 c0 d0; clear a HB; intro a HB y n0 o0 q u; clear hb hbox hg; have p3 := u.out; have q3 := q.out; obtain ⟨s1, t1, x1, y1⟩ := zc2 y; obtain ⟨A1, B1, C1, D1⟩ := zc2 a) | (go_at_call 28; (with_reducible refine (spec_l21Tokens.calls k1 _ _ ((rd_T57 l x).f0) B true _ ?side1 ?side2 S0.out).mono ?_); (case side1 => exact z4 z.out zB); (case side2 => exact A.out); rintro e w' ⟨rfl, ⟨nd, rfl⟩⟩; (try first | exact ⟨rfl, _, World.drewN_drewN _ _ _⟩ | exact ⟨rfl, _, Eq.trans (World.drewN_drewN _ _ _) (congrArg (World.drewN _) (Nat.add_assoc _ _ _))⟩)) | (go_at_call 29; (with_reducible refine (spec_l21Weights.calls k1 _ _ ((rd_T57 l x).f1) true _ ?side1 ?side2 m2.out).mono ?_); (case side1 => exact z4 j0.out zB); (case side2 => exact m0.out); rintro e w' ⟨rfl, ⟨nd, rfl⟩⟩; (try first | exact ⟨rfl, _, World.drewN_drewN _ _ _⟩ | exact ⟨rfl, _, Eq.trans (World.drewN_drewN _ _ _) (congrArg (World.drewN _) (Nat.add_assoc _ _ _))⟩))); try go_wp2_with (first | ((with_reducible refine gd 5 rfl ?_); (try (refine gate_guard (by rfl) ?_; dsimp only)); refine zJ 5 #[.slice none 0 0, .slice none 0 0] 57 ?_; intro O hg l4 hbox hb; have D := z7 a hb; have E := z8 hb; have I := zK (hbox); have J := z9 hg; have b0 := z9 hg; have c0 := zHH hg a; have d0 := zGG hg a; revert D E I J b0 c0 d0; clear a HB; intro a HB y n0 o0 q u; clear hb hbox hg; have p3 := u.out; have q3 := q.out; obtain ⟨s1, t1, x1, y1⟩ := zc2 y; obtain ⟨A1, B1, C1, D1⟩ := zc2 a) | (go_at_call 28; (with_reducible refine (spec_l21Tokens.calls k1 _ _ ((rd_T57 l x).f0) B true _ ?side1 ?side2 S0.out).mono ?_); (case side1 => exact z4 z.out zB); (case side2 => exact A.out); rintro e w' ⟨rfl, ⟨nd, rfl⟩⟩; (try first | exact ⟨rfl, _, World.drewN_drewN _ _ _⟩ | exact ⟨rfl, _, Eq.trans (World.drewN_drewN _ _ _) (congrArg (World.drewN _) (Nat.add_assoc _ _ _))⟩)) | (go_at_call 29; (with_reducible refine (spec_l21Weights.calls k1 _ _ ((rd_T57 l x).f1) true _ ?side1 ?side2 m2.out).mono ?_); (case side1 => exact z4 j0.out zB); (case side2 => exact m0.out); rintro e w' ⟨rfl, ⟨nd, rfl⟩⟩; (try first | exact ⟨rfl, _, World.drewN_drewN _ _ _⟩ | exact ⟨rfl, _, Eq.trans (World.drewN_drewN _ _ _) (congrArg (World.drewN _) (Nat.add_assoc _ _ _))⟩))))
 go_loopg [6] k1 (fun kq v6 w' => ∃ (i0 : Int), v6 = .int .i64 i0 ∧ Aside0 (spec_LmOk.l1 kq F1 x i0 B l ((rd_T57 l x).f0) ((rd_T57 l x).f1) = some r) ∧ Aside0 (kq ≤ k1) ∧ Aside0 (w'.heap[t0]? = some (.cells #[.int .i64 B, (.slice (some O0) l.length p0)] 29 (0, 0))) ∧ Aside0 (w'.heap[O]? = some (.cells #[(.slice x0 ((rd_T57 l x).f0).length y0), (.slice A0 ((rd_T57 l x).f1).length B0)] 57 (0, 0))) ∧ Aside0 (Below w.heap.size w w'))
 case atStart => exact ⟨(0), zR, H', ⟨Nat.le_refl _⟩, ⟨zV a⟩, ⟨zW y⟩, ⟨zB⟩⟩
 clear H'
 try clear c1
 try clear p1
 try clear q1
 try clear J5
 try clear c2
 try clear p2
 try clear c3
 try clear c4
 try clear O2
 try clear R2
 try clear c8
 try clear c9
 try clear N3
 try clear J2
 try clear a4
 try clear G1
 try clear a3
 try clear b3
 try clear L5
 try clear M5
 try clear I5
 try clear N5
 try clear L2
 try clear E1
 try clear i3
 try clear j3
 try clear M2
 try clear O5
 try clear B3 C3 D3 E3
 try clear j1 m1 n1 o1
 try clear F3 G3 I3 J3
 try clear s1 t1 x1 y1
 try clear A1 B1 C1 D1
 try clear V0 X0 a1 b1
 try clear d1 e1 g1 i1
 try clear L
 try clear M
 try clear e0
 try clear p2
 try clear g0
 obtain ⟨i0, rfl, HA, C2, a, y, HB⟩ := hrel
 rcases gk with _ | k2
 · exact absurd HA.out (by simp [spec_LmOk.l1])
 have H := HA.out
 clear HA
 simp only [spec_LmOk.l1] at H
 by_cases D2 : i0 < x
 rotate_left
 · rw [if_neg D2] at H
   have b4 := z2 D2
   clear D2
   by_cases s3 : F1 = true
   · subst s3
     rw [if_pos rfl] at H
     have H' := zK H
     clear H
     go_wp2
     repeat (go_quiet (fail); try go_wp2)
     go_roundg k2
     case measure => have := N1.out; have := C2.out; omega
     case rel => exact ⟨(true), (wrap64 (x + 1)), zR, zR, H', ⟨by have := N1.out; have := C2.out; omega⟩, ⟨zM a⟩, ⟨zB⟩⟩
   replace s3 := Bool.eq_false_iff.mpr s3
   subst s3
   rw [if_neg (show ¬ (false = true) by decide)] at H
   have H' := zK H
   clear H
   have s5 := u.out
   have t5 := q.out
   have M4 : wr.cell? ⟨O, 0, none⟩ = some (.slice x0 ((rd_T57 l x).f0).length y0) := zy y 0
   have N4 : wr.cell? ⟨O, 1, none⟩ = some (.slice A0 ((rd_T57 l x).f1).length B0) := zy y 1
   have O4 := zf y.out 0
   have R4 := zf y.out 1
   go_wp2
   repeat (go_quiet (fail); try go_wp2)
   go_roundg k2
   case measure => have := N1.out; have := C2.out; omega
   case rel => exact ⟨(((((rd_T57 l x).f0).length : Int) == 0)), (wrap64 (x + 1)), zR, zR, H', ⟨by have := N1.out; have := C2.out; omega⟩, ⟨zM a⟩, ⟨zB⟩⟩
 rw [if_pos D2] at H
 have b4 := z1 D2
 clear D2
 by_cases t3 : 0 ≤ i0
 rotate_left
 · rw [if_neg t3] at H
   exact absurd H (by simp)
 rw [if_pos t3] at H
 have x5 := z1 t3
 clear t3
 by_cases x3 : i0 < (l.length : Int)
 rotate_left
 · rw [if_neg x3] at H
   exact absurd H (by simp)
 rw [if_pos x3] at H
 have y5 := z1 x3
 clear x3
 replace H := z6 H
 obtain ⟨o4, S3, H⟩ := H
 have E2 := zK S3
 clear S3
 by_cases y3 : o4 = true
 · subst y3
   rw [if_pos rfl] at H
   obtain rfl := z5 H
   have A5 := q.out
   have B5 := u.out
   obtain ⟨S4, T4, U4, V4⟩ := zc2 a
   have T0 : 0 ≤ (i0 : Int) := z3
   have U0 : i0 < (l.length : Int) := z3
   obtain ⟨G2, T3, U3, V3, X3, U2, F0, G0, I0, J0, L0, M0⟩ := at_T57 N0.out i0 T0 U0
   obtain rfl : O0 = G2 := (by injection U2)
   (try replace F0 := zX HB F0)
   (try replace G0 := zX HB G0)
   have q0 := zK J0
   have s0 := zK I0
   clear J0 I0
   have L3 := zK M0
   have M3 := zK L0
   clear M0 L0
   replace T0 := eq_true T0
   replace U0 := eq_true U0
   have X4 : wr.cell? ⟨O, 0, none⟩ = some (.slice x0 ((rd_T57 l x).f0).length y0) := zy y 0
   have a5 : wr.cell? ⟨O, 1, none⟩ = some (.slice A0 ((rd_T57 l x).f1).length B0) := zy y 1
   have b5 := zf y.out 0
   have c5 := zf y.out 1
   go_wp2_with (first | (go_at_call 30; (with_reducible refine (spec_l3SameInts.calls k2 _ _ ((rd_T57 l i0).f0) _ _ ((rd_T57 l x).f0) true _ ?side1 ?side2 ?side3 ?side4 E2.out).mono ?_); (case side1 => exact zS q0); (case side2 => exact s0.out); (case side3 => exact zS z); (case side4 => exact A.out); rintro e w' ⟨rfl, ⟨nd, rfl⟩⟩; (try first | exact ⟨rfl, _, World.drewN_drewN _ _ _⟩ | exact ⟨rfl, _, Eq.trans (World.drewN_drewN _ _ _) (congrArg (World.drewN _) (Nat.add_assoc _ _ _))⟩)))
   repeat (go_quiet (first | (go_at_call 30; (with_reducible refine (spec_l3SameInts.calls k2 _ _ ((rd_T57 l i0).f0) _ _ ((rd_T57 l x).f0) true _ ?side1 ?side2 ?side3 ?side4 E2.out).mono ?_); (case side1 => exact zS q0); (case side2 => exact s0.out); (case side3 => exact zS z); (case side4 => exact A.out); rintro e w' ⟨rfl, ⟨nd, rfl⟩⟩; (try first | exact ⟨rfl, _, World.drewN_drewN _ _ _⟩ | exact ⟨rfl, _, Eq.trans (World.drewN_drewN _ _ _) (congrArg (World.drewN _) (Nat.add_assoc _ _ _))⟩))); try go_wp2_with (first | (go_at_call 30; (with_reducible refine (spec_l3SameInts.calls k2 _ _ ((rd_T57 l i0).f0) _ _ ((rd_T57 l x).f0) true _ ?side1 ?side2 ?side3 ?side4 E2.out).mono ?_); (case side1 => exact zS q0); (case side2 => exact s0.out); (case side3 => exact zS z); (case side4 => exact A.out); rintro e w' ⟨rfl, ⟨nd, rfl⟩⟩; (try first | exact ⟨rfl, _, World.drewN_drewN _ _ _⟩ | exact ⟨rfl, _, Eq.trans (World.drewN_drewN _ _ _) (congrArg (World.drewN _) (Nat.add_assoc _ _ _))⟩))))
   go_ret
   exact ⟨zE, zB⟩
 replace y3 := Bool.eq_false_iff.mpr y3
 subst y3
 rw [if_neg (show ¬ (false = true) by decide)] at H
 have H' := zK H
 clear H
 have C5 := q.out
 have D5 := u.out
 obtain ⟨d5, e5, f5, g5⟩ := zc2 a
 have T0 : 0 ≤ (i0 : Int) := z3
 have U0 : i0 < (l.length : Int) := z3
 obtain ⟨G2, T3, U3, V3, X3, U2, F0, G0, I0, J0, L0, M0⟩ := at_T57 N0.out i0 T0 U0
 obtain rfl : O0 = G2 := (by injection U2)
 (try replace F0 := zX HB F0)
 (try replace G0 := zX HB G0)
 have q0 := zK J0
 have s0 := zK I0
 clear J0 I0
 have L3 := zK M0
 have M3 := zK L0
 clear M0 L0
 replace T0 := eq_true T0
 replace U0 := eq_true U0
 have i5 : wr.cell? ⟨O, 0, none⟩ = some (.slice x0 ((rd_T57 l x).f0).length y0) := zy y 0
 have j5 : wr.cell? ⟨O, 1, none⟩ = some (.slice A0 ((rd_T57 l x).f1).length B0) := zy y 1
 have l5 := zf y.out 0
 have m5 := zf y.out 1
 go_wp2_with (first | (go_at_call 30; (with_reducible refine (spec_l3SameInts.calls k2 _ _ ((rd_T57 l i0).f0) _ _ ((rd_T57 l x).f0) false _ ?side1 ?side2 ?side3 ?side4 E2.out).mono ?_); (case side1 => exact zS q0); (case side2 => exact s0.out); (case side3 => exact zS z); (case side4 => exact A.out); rintro e w' ⟨rfl, ⟨nd, rfl⟩⟩; (try first | exact ⟨rfl, _, World.drewN_drewN _ _ _⟩ | exact ⟨rfl, _, Eq.trans (World.drewN_drewN _ _ _) (congrArg (World.drewN _) (Nat.add_assoc _ _ _))⟩)))
 repeat (go_quiet (first | (go_at_call 30; (with_reducible refine (spec_l3SameInts.calls k2 _ _ ((rd_T57 l i0).f0) _ _ ((rd_T57 l x).f0) false _ ?side1 ?side2 ?side3 ?side4 E2.out).mono ?_); (case side1 => exact zS q0); (case side2 => exact s0.out); (case side3 => exact zS z); (case side4 => exact A.out); rintro e w' ⟨rfl, ⟨nd, rfl⟩⟩; (try first | exact ⟨rfl, _, World.drewN_drewN _ _ _⟩ | exact ⟨rfl, _, Eq.trans (World.drewN_drewN _ _ _) (congrArg (World.drewN _) (Nat.add_assoc _ _ _))⟩))); try go_wp2_with (first | (go_at_call 30; (with_reducible refine (spec_l3SameInts.calls k2 _ _ ((rd_T57 l i0).f0) _ _ ((rd_T57 l x).f0) false _ ?side1 ?side2 ?side3 ?side4 E2.out).mono ?_); (case side1 => exact zS q0); (case side2 => exact s0.out); (case side3 => exact zS z); (case side4 => exact A.out); rintro e w' ⟨rfl, ⟨nd, rfl⟩⟩; (try first | exact ⟨rfl, _, World.drewN_drewN _ _ _⟩ | exact ⟨rfl, _, Eq.trans (World.drewN_drewN _ _ _) (congrArg (World.drewN _) (Nat.add_assoc _ _ _))⟩))))
 go_roundg k2
 case measure => have := N1.out; have := C2.out; omega
 case rel => exact ⟨(wrap64 (i0 + 1)), zR, H', ⟨by have := N1.out; have := C2.out; omega⟩, ⟨zM a⟩, ⟨zM y⟩, ⟨zB⟩⟩
def laws_toIntS.l0 : Nat → List Int → List Int → Int → Option (List Int)
 | 0, _, _, _ => none
 | k + 1, l, q, a => if a < (l.length : Int) then (if 0 ≤ a then (if a < (q.length : Int) then (laws_toIntS.l0 k l (q.set (a : Int).toNat (rd l a)) (wrap64 (a + 1))) else (none)) else (none)) else (some q)
def laws_toIntS.f (k : Nat) (a : List Int) : Option (List Int) := if 0 ≤ (a.length : Int) then (if ((a.length : Int) : Int).toNat ≤ 35184372088832 then (laws_toIntS.l0 k a (List.replicate ((a.length : Int) : Int).toNat 0) 0) else (none)) else (none)
theorem laws_toIntS.calls (k) (A0) (c0) (l : List Int) (r : List Int) (w) (e0 : Kd.C (Kd.int .i64) w A0 l.length l) (f0 : l.length ≤ c0) (h : laws_toIntS.f k l = some r) :
 Calls Try.prog 20 #[.slice A0 l.length c0] w fun e w' => ∃ v0_ : Value, e = .returned (v0_) ∧ Kd.R (Kd.int .i64) 3 w' w.heap.size (fun _ => True) v0_ r ∧ Below w.heap.size w w' := by
 have C0 := zK e0
 have J0 := zK f0
 clear e0 f0
 have HB := zK (Below.refl w.heap.size w)
 have H : (if 0 ≤ (l.length : Int) then (if ((l.length : Int) : Int).toNat ≤ 35184372088832 then (laws_toIntS.l0 k l (List.replicate ((l.length : Int) : Int).toNat 0) 0) else (none)) else (none)) = some r := h
 clear h
 by_cases J : 0 ≤ (l.length : Int)
 rotate_left
 · rw [if_neg J] at H
   exact absurd H (by simp)
 rw [if_pos J] at H
 have m0 := eq_true J
 have n0 := z1 J
 clear J
 by_cases L : ((l.length : Int) : Int).toNat ≤ 35184372088832
 rotate_left
 · rw [if_neg L] at H
   exact absurd H (by simp)
 rw [if_pos L] at H
 have o0 := eq_true L
 have p0 := z1 L
 clear L
 obtain ⟨O, x⟩ : ∃ y_ : List Int, y_ = (List.replicate ((l.length : Int) : Int).toNat 0) := ⟨_, rfl⟩
 replace H : (laws_toIntS.l0 k l O 0) = some r := by first | (rw [x]; with_reducible exact H) | (have z := (Option.bind_some _ _).symm.trans H; rw [x]; with_reducible exact z) | (have z := (Option.bind_some _ _).symm.trans H; with_reducible exact z) | with_reducible exact H | (rw [x]; exact H) | exact H
 have Ny124 := zK x
 clear x
 have H' := zK H
 clear H
 go_enter Try.func20, Try.ntmps20
 go_wp2_with (first | ((with_reducible refine gd 7 rfl ?_); refine Kd.R_make (Kd.int .i64) _ 3 rfl (N := 7) rfl 47 _ _ rfl (l.length : Int) rfl rfl Try.underlying47 (.int .i64 0) 8 info3 rfl (by decide) (by omega) 0 (ok := fun _ => True) (okp := fun _ => True) rfl (fun _ hk => hk) trivial (z3) (Nat.le_trans (Nat.mul_le_mul_right _ (z3 : (l.length : Int).toNat ≤ 35184372088832)) (by omega)) (Below.refl _ _) (Nat.le_refl _) ?_; intro v125 w4 B hb hg_ hnew_; clear hg_ hnew_; (first | rw [← Ny124.out] at B | (simp only [Int.reduceToNat] at B; rw [← Ny124.out] at B)); have T := zK (Kd.R_lower B (zz zB)); have U := z8 hb; revert T U; clear HB; intro a0 HB; clear hb B))
 go_loopg [4] k (fun kq v4 w' => ∃ (q : List Int) (a : Int), v4 = .int .i64 a ∧ Aside0 (laws_toIntS.l0 kq l q a = some r) ∧ Aside0 (kq ≤ k) ∧ Aside0 (Kd.R (Kd.int .i64) 3 w' w.heap.size (fun _ => True) v125 q) ∧ Aside0 (Below w.heap.size w w'))
 case atStart => exact ⟨(O), (0), zR, H', ⟨Nat.le_refl _⟩, ⟨zkR a0⟩, ⟨zB⟩⟩
 clear H'
 try clear J
 try clear m0
 try clear n0
 try clear p2
 try clear L
 try clear o0
 try clear p0
 obtain ⟨q, a, rfl, HA, g0, u, HB⟩ := hrel
 rcases gk with _ | k1
 · exact absurd HA.out (by simp [laws_toIntS.l0])
 have H := HA.out
 clear HA
 simp only [laws_toIntS.l0] at H
 by_cases M : a < (l.length : Int)
 rotate_left
 · rw [if_neg M] at H
   have q0 := z2 M
   clear M
   obtain rfl := z5 H
   go_wp2
   go_ret
   exact ⟨_, zE, zkR u, zB⟩
 rw [if_pos M] at H
 have q0 := z1 M
 clear M
 by_cases c7 : 0 ≤ a
 rotate_left
 · rw [if_neg c7] at H
   exact absurd H (by simp)
 rw [if_pos c7] at H
 have G0 := z1 c7
 clear c7
 by_cases c8 : a < (q.length : Int)
 rotate_left
 · rw [if_neg c8] at H
   exact absurd H (by simp)
 rw [if_pos c8] at H
 have I0 := z1 c8
 clear c8
 obtain ⟨D, y⟩ : ∃ y_ : List Int, y_ = (q.set (a : Int).toNat (rd l a)) := ⟨_, rfl⟩
 replace H : (laws_toIntS.l0 k1 l D (wrap64 (a + 1))) = some r := by first | (rw [y]; with_reducible exact H) | (have z := (Option.bind_some _ _).symm.trans H; rw [y]; with_reducible exact z) | (have z := (Option.bind_some _ _).symm.trans H; with_reducible exact z) | with_reducible exact H | (rw [y]; exact H) | exact H
 have Ny128 := zK y
 clear y
 have H' := zK H
 clear H
 have E : 0 ≤ (a : Int) := z3
 have I : a < (l.length : Int) := z3
 obtain ⟨E0, s0, A⟩ := Kd.at_int C0.out a E I
 cases s0
 (try replace A := zX HB A)
 replace E := eq_true E
 replace I := eq_true I
 have p9 : 0 ≤ (a : Int) := z3
 have q9 : (a : Int) < ((q.length : Int) : Int) := z3
 obtain ⟨go9, D0, i0, j0, gl9, cl9, HG9⟩ := Kd.R_form u.out (by omega)
 (first | cases i0 | (injection i0 with ea_ en_ ec_; (first | subst ea_ | (injection ea_ with ea_; subst ea_)); subst ec_; clear en_))
 have GB9 := zK j0
 have GG9 := zK HG9
 clear j0 gl9 HG9
 obtain ⟨F0, hf9_0⟩ := Kd.R_celln 0 u.out (a : Int) p9 q9
 replace p9 := eq_true p9
 replace q9 := eq_true q9
 have HP10 := Kd.R_putg u.out (a : Int) (rd l a)
 go_wp2_with (first | ((with_reducible refine gate_store (t := 3) (p := 20) rfl ?_); refine store_event (t := 3) (p := 20) (v := ?vo_w11) (w1 := (wr.setCell ⟨go9, (a : Int).toNat, none⟩ (.int .i64 (rd l a)))) ?hg ?ho ?hn ?hr ?_; (case ho => rfl); (case hg => rfl); (case hn => rfl); (case hr => first | (go_simp; done) | (go_simp; rfl)); intro X hw; have hg : wr.grownBy X (some go9) := (by rw [hw]; exact HP10.2); have hp_ : Kd.R (Kd.int .i64) 3 X w.heap.size (fun _ => True) (.slice (some ⟨go9, 0, none⟩) q.length D0) D := (by rw [hw, Ny128.out]; exact HP10.1); clear HP10; have T := zK (hp_); have U := zK ((by rw [hw]; exact zs (HB.out) GB9.out : Below w.heap.size w X)); revert T U; clear u HB; intro u HB; clear hg hw hp_))
 go_roundg k1
 case measure => have := g0.out; omega
 case rel => exact ⟨(D), (wrap64 (a + 1)), zR, H', ⟨by have := g0.out; omega⟩, ⟨zkR u⟩, ⟨zB⟩⟩
def laws_toRow.f (k : Nat) (a : List Int) (l : List Int) : Option (List Int × List Int) := (laws_toIntS.f k a).bind fun q => ((laws_toIntS.f k l).bind fun u => (some (q, u)))
theorem laws_toRow.calls (k) (J) (L) (u : List Int) (M) (O) (x : List Int) (r1 : List Int) (r2 : List Int) (w) (f0 : Kd.C (Kd.int .i64) w J u.length u) (g0 : u.length ≤ L) (i0 : Kd.C (Kd.int .i64) w M x.length x) (j0 : x.length ≤ O) (h : laws_toRow.f k u x = some (r1, r2)) :
 Calls Try.prog 50 #[.agg #[.slice J u.length L, .slice M x.length O]] w fun e w' => ∃ v0_ v1_ : Value, e = .returned (.agg #[v0_, v1_]) ∧ Kd.R (Kd.int .i64) 3 w' w.heap.size (fun k_ => some k_ ≠ (v1_ : Value).ownBlock) v0_ r1 ∧ Kd.R (Kd.int .i64) 3 w' w.heap.size (fun k_ => some k_ ≠ (v0_ : Value).ownBlock) v1_ r2 ∧ Below w.heap.size w w' := by
 have B1 := Try.underlying71
 have C1 := Try.underlying57
 have q0 := zK f0
 have s0 := zK g0
 clear f0 g0
 have t0 := zK i0
 have x0 := zK j0
 clear i0 j0
 have HB := zK (Below.refl w.heap.size w)
 have H : ((laws_toIntS.f k u).bind fun E => ((laws_toIntS.f k x).bind fun T => (some (E, T)))) = some (r1, r2) := h
 clear h
 replace H := z6 H
 obtain ⟨E, B0, H⟩ := H
 have A2 := zK B0
 clear B0
 replace H := z6 H
 obtain ⟨T, C0, H⟩ := H
 have A3 := zK C0
 clear C0
 simp only [Option.some.injEq, Prod.mk.injEq] at H
 obtain ⟨rfl, rfl⟩ := H
 go_enter Try.func50, Try.ntmps50
 go_wp2_with (first | ((with_reducible refine gd 1 rfl ?_); refine zJ 1 #[.slice J u.length L, .slice M x.length O] 71 ?_; intro n1 hg w4 hbox hb; have z := z8 hb; have A := zK (hbox); have B := z9 hg; have D := z9 hg; revert z A B D; clear HB; intro HB a o1 p1; clear hb hbox hg) | ((with_reducible refine gd 2 rfl ?_); refine zJ 2 #[.slice none 0 0, .slice none 0 0] 57 ?_; intro y0 hg w5 hbox hb; have z := z7 a hb; have A := z8 hb; have B := zK (hbox); have D := z9 hg; have I := z9 hg; have U := zHH hg a; have n0 := zGG hg a; revert z A B D I U n0; clear a HB; intro a HB l q1 s1 X a0; clear hb hbox hg) | ((with_reducible refine gd 3 rfl ?_); refine zJ 3 #[.slice none 0 0, .slice none 0 0] 57 ?_; intro A0 hg w6 hbox hb; have z := z7 a hb; have A := z7 l hb; have B := z8 hb; have D := zK (hbox); have I := z9 hg; have U := z9 hg; have n0 := zHH hg a; have e1 := zGG hg a; have f1 := zHH hg l; have g1 := zGG hg l; revert z A B D I U n0 e1 f1 g1; clear a l HB; intro a l HB q t1 x1 b0 c0 d0 e0; clear hb hbox hg; have F1 := X.out; have G1 := a0.out; have I1 := b0.out; have J1 := c0.out; obtain ⟨i1, j1, l1, m1⟩ := zc2 a) | ((with_reducible refine gc 20 rfl ?_); refine zF 6 Try.func20 #[.slice J u.length L] rfl zL ?_; refine (laws_toIntS.calls k _ _ u E _ (zS q0) s0.out A2.out).mono ?_; rintro e L1 ⟨v133, rfl, l0, hb⟩; refine ⟨_, rfl, ?_⟩; have z := zK (Kd.R_lower l0 (zz zB)); have A := z7 a hb; have B := z7 l hb; have D := z7 q hb; have I := z8 hb; revert z A B D I; clear a l q HB; intro y a l q HB; obtain ⟨o0, p0, D0⟩ := Kd.R_slice y.out; subst D0; have y1 := e0.out; have A1 := d0.out; obtain ⟨I0, J0, L0, M0⟩ := zc2 q; obtain ⟨N0, O0, R0, S0⟩ := zc2 a) | ((with_reducible refine gc 20 rfl ?_); refine zF 10 Try.func20 #[.slice M x.length O] rfl zL ?_; refine (laws_toIntS.calls k _ _ x T _ (z4 t0.out zB) x0.out A3.out).mono ?_; rintro e M1 ⟨v136, rfl, l0, hb⟩; refine ⟨_, rfl, ?_⟩; have z := zK (Kd.R_elder' (Kd.R_mono (zlR (Kd.R_types y.out q.out (by decide))) (fun _ h_ => h_.1)) (Kd.R_base l0) hb); have A := zK (Kd.R_lower (Kd.R_new' l0 (Kd.R_lt (Kd.R_mono (zlR (Kd.R_types y.out q.out (by decide))) (fun _ h_ => h_.1)))) (zz zB)); have B := zK (zg (zV a) hb); have D := zK (zg (zV l) hb); have I := zK (zg (g := A0) (o := .cells #[.slice o0 E.length p0, .slice none 0 0] 57 (0, 0)) (zW q) hb); have U := z8 hb; revert z A B D I U; clear y a l q HB; intro y m0 a l q HB; obtain ⟨E0, F0, G0⟩ := Kd.R_slice m0.out; subst G0; obtain ⟨T0, U0, V0, X0⟩ := zc2 q; obtain ⟨a1, b1, c1, d1⟩ := zc2 l))
 refine bodyPost_ret (results_cell_row rfl _ _ y0 57 #[.slice o0 E.length p0, .slice E0 T.length F0] (0, 0) _ rfl (zW l) Try.underlying57 rfl (by kernel_rfl)) rfl ?_
 exact ⟨_, _, zE, Kd.R_mono (zlR (Kd.R_types (Kd.R_types y.out q.out (by decide)) l.out (by decide))) (fun _ hk => hk.1.1.2), Kd.R_mono (zlR (Kd.R_types (Kd.R_types m0.out q.out (by decide)) l.out (by decide))) (fun _ hk => hk.1.1.2), zB⟩
def laws_toRowS.l0 : Nat → List (S71) → List (S57) → Int → Option ((List (S57)))
 | 0, _, _, _ => none
 | k + 1, q, u, a => if a < (q.length : Int) then (if 0 ≤ a then ((laws_toRow.f k ((rd_T71 q a).f0) ((rd_T71 q a).f1)).bind fun l => (if a < (u.length : Int) then (laws_toRowS.l0 k q (u.set (a : Int).toNat (⟨l.1, l.2⟩ : S57)) (wrap64 (a + 1))) else (none))) else (none)) else (some u)
def laws_toRowS.f (k : Nat) (a : List (S71)) : Option ((List (S57))) := if 0 ≤ (a.length : Int) then (if ((a.length : Int) : Int).toNat ≤ 5864062014805 then (laws_toRowS.l0 k a (List.replicate ((a.length : Int) : Int).toNat z57) 0) else (none)) else (none)
theorem laws_toRowS.calls (k) (A0) (c0) (u : List (S71)) (r : List (S57)) (w) (V0 : Kd.C k71 w A0 u.length u) (X0 : u.length ≤ c0) (h : laws_toRowS.f k u = some r) :
 Calls Try.prog 31 #[.slice A0 u.length c0] w fun e w' => ∃ v0_ : Value, e = .returned (v0_) ∧ Kd.S k57 57 w' w.heap.size (fun _ => True) v0_ r ∧ Below w.heap.size w w' := by
 have C1 := Try.underlying71
 have D1 := Try.underlying57
 have s1 := zK V0
 have I1 := zK X0
 clear V0 X0
 have HB := zK (Below.refl w.heap.size w)
 have H : (if 0 ≤ (u.length : Int) then (if ((u.length : Int) : Int).toNat ≤ 5864062014805 then (laws_toRowS.l0 k u (List.replicate ((u.length : Int) : Int).toNat z57) 0) else (none)) else (none)) = some r := h
 clear h
 by_cases c2 : 0 ≤ (u.length : Int)
 rotate_left
 · rw [if_neg c2] at H
   exact absurd H (by simp)
 rw [if_pos c2] at H
 have e1 := eq_true c2
 have g1 := z1 c2
 clear c2
 by_cases c3 : ((u.length : Int) : Int).toNat ≤ 5864062014805
 rotate_left
 · rw [if_neg c3] at H
   exact absurd H (by simp)
 rw [if_pos c3] at H
 have i1 := eq_true c3
 have j1 := z1 c3
 clear c3
 obtain ⟨B0, z⟩ : ∃ y_ : List (S57), y_ = (List.replicate ((u.length : Int) : Int).toNat z57) := ⟨_, rfl⟩
 replace H : (laws_toRowS.l0 k u B0 0) = some r := by first | (rw [z]; with_reducible exact H) | (have E := (Option.bind_some _ _).symm.trans H; rw [z]; with_reducible exact E) | (have E := (Option.bind_some _ _).symm.trans H; with_reducible exact E) | with_reducible exact H | (rw [z]; exact H) | exact H
 have Ny138 := zK z
 clear z
 have H' := zK H
 clear H
 go_enter Try.func31, Try.ntmps31
 go_wp2_with (first | ((with_reducible refine gd 7 rfl ?_); refine Kd.S_make k57 _ 57 rfl (N := 7) rfl 27 _ _ rfl (u.length : Int) rfl rfl Try.underlying27 (.agg #[(.slice none 0 0), (.slice none 0 0)]) 48 info57 rfl (by decide) (by omega) z57 (ok := fun _ => True) (okp := fun _ => True) (k57_mkM _ _ _ z57 (Kd.R_nil _ _ _ _ _) (Kd.R_nil _ _ _ _ _)) (fun _ hk => hk) trivial (z3) (Nat.le_trans (Nat.mul_le_mul_right _ (z3 : (u.length : Int).toNat ≤ 5864062014805)) (by omega)) (Below.refl _ _) (Nat.le_refl _) ?_; intro v139 w4 e0 hb hg_ hnew_; clear hg_ hnew_; (first | rw [← Ny138.out] at e0 | (simp only [Int.reduceToNat] at e0; rw [← Ny138.out] at e0)); have g0 := zK (Kd.S_lower e0 (zz zB)); have i0 := z8 hb; revert g0 i0; clear HB; intro S0 HB; clear hb e0))
 go_loopg [4] k (fun kq v4 w' => ∃ (q : List (S57)) (a : Int), v4 = .int .i64 a ∧ Aside0 (laws_toRowS.l0 kq u q a = some r) ∧ Aside0 (kq ≤ k) ∧ Aside0 (Kd.S k57 57 w' w.heap.size (fun _ => True) v139 q) ∧ Aside0 (Below w.heap.size w w'))
 case atStart => exact ⟨(B0), (0), zR, H', ⟨Nat.le_refl _⟩, ⟨zkS S0⟩, ⟨zB⟩⟩
 clear H'
 try clear c2
 try clear e1
 try clear g1
 try clear p2
 try clear c3
 try clear i1
 try clear j1
 obtain ⟨q, a, rfl, HA, a1, l, HB⟩ := hrel
 rcases gk with _ | k1
 · exact absurd HA.out (by simp [laws_toRowS.l0])
 have H := HA.out
 clear HA
 simp only [laws_toRowS.l0] at H
 by_cases c6 : a < (u.length : Int)
 rotate_left
 · rw [if_neg c6] at H
   have l1 := z2 c6
   clear c6
   obtain rfl := z5 H
   go_wp2
   go_ret
   exact ⟨_, zE, zkS l, zB⟩
 rw [if_pos c6] at H
 have l1 := z1 c6
 clear c6
 by_cases c7 : 0 ≤ a
 rotate_left
 · rw [if_neg c7] at H
   exact absurd H (by simp)
 rw [if_pos c7] at H
 have E1 := z1 c7
 clear c7
 replace H := z6 H
 obtain ⟨⟨x, y⟩, b1, H⟩ := H
 replace H : (if a < (q.length : Int) then (laws_toRowS.l0 k1 u (q.set (a : Int).toNat (⟨x, y⟩ : S57)) (wrap64 (a + 1))) else (none)) = some r := H
 have A8 := zK b1
 clear b1
 by_cases c9 : a < (q.length : Int)
 rotate_left
 · rw [if_neg c9] at H
   exact absurd H (by simp)
 rw [if_pos c9] at H
 have G1 := z1 c9
 clear c9
 obtain ⟨j0, A⟩ : ∃ y_ : List (S57), y_ = (q.set (a : Int).toNat (⟨x, y⟩ : S57)) := ⟨_, rfl⟩
 replace H : (laws_toRowS.l0 k1 u j0 (wrap64 (a + 1))) = some r := by first | (rw [A]; with_reducible exact H) | (have E := (Option.bind_some _ _).symm.trans H; rw [A]; with_reducible exact E) | (have E := (Option.bind_some _ _).symm.trans H; with_reducible exact E) | with_reducible exact H | (rw [A]; exact H) | exact H
 have Ny148 := zK A
 clear A
 have H' := zK H
 clear H
 have m0 : 0 ≤ (a : Int) := z3
 have n0 : a < (u.length : Int) := z3
 obtain ⟨B1, C0, D0, E0, F0, m1, J, L, M, O, T, U⟩ := at_T71 s1.out a m0 n0
 cases m1
 (try replace J := zX HB J)
 (try replace L := zX HB L)
 have s0 := zK O
 have t0 := zK M
 clear O M
 have x0 := zK U
 have y0 := zK T
 clear U T
 replace m0 := eq_true m0
 replace n0 := eq_true n0
 go_wp2_with (first | ((with_reducible refine gc 50 rfl ?_); refine zF 20 Try.func50 #[.agg #[.slice C0 ((rd_T71 u a).f0).length D0, .slice E0 ((rd_T71 u a).f1).length F0]] rfl zL ?_; refine (laws_toRow.calls k1 _ _ ((rd_T71 u a).f0) _ _ ((rd_T71 u a).f1) x y _ (zS s0) t0.out (zS x0) y0.out A8.out).mono ?_; rintro e I ⟨v143, v146, rfl, c1, d1, hb⟩; refine ⟨_, rfl, ?_⟩; have g0 := zK (Kd.S_mono (Kd.S_told (Kd.S_told (Kd.S_old (zkS l) hb) (Kd.R_base c1)) (Kd.R_base d1)) (fun _ h_ => h_.1)); have i0 := zK (Kd.R_lower c1 (zz zB)); have t1 := zK (Kd.R_lower d1 (zz zB)); have x1 := z8 hb; revert g0 i0 t1 x1; clear l HB; intro l B D HB; have G0 : 0 ≤ (a : Int) := z3; have I0 : (a : Int) < ((q.length : Int) : Int) := z3; obtain ⟨go10, J0, L0, M0, gl10, cl10, HG10⟩ := Kd.S_form l.out (by omega); (first | cases L0 | (injection L0 with ea_ en_ ec_; (first | subst ea_ | (injection ea_ with ea_; subst ea_)); subst ec_; clear en_)); have GB10 := zK M0; have GG10 := zK HG10; clear M0 gl10 HG10; obtain ⟨_, ce10, hcl10, hM10, hcc10, hfr10, _, _⟩ := Kd.S_elem l.out z57 (a : Int) G0 I0; obtain ⟨ve10_0, ve10_1, rfl, ge10_0, ge10_1⟩ := k57_openM hM10; have y1 : I.cell? ⟨go10, (a : Int).toNat * 2, none⟩ = some (ve10_0) := hcc10 0 _ rfl; have A1 : I.cell? ⟨go10, (a : Int).toNat * 2 + 1, none⟩ = some (ve10_1) := hcc10 1 _ rfl; have hf10_0 : I.frozen? ⟨go10, (a : Int).toNat * 2, none⟩ = false := hfr10 0; have hf10_1 : I.frozen? ⟨go10, (a : Int).toNat * 2 + 1, none⟩ = false := hfr10 1; clear hcl10 hcc10 hfr10 hM10; replace G0 := eq_true G0; replace I0 := eq_true I0; obtain ⟨X, a0, n1⟩ := Kd.R_slice D.out; subst n1; obtain ⟨b0, d0, o1⟩ := Kd.R_slice B.out; subst o1; have n_ := zK (Kd.S_mono (ok' := (fun k_ => some k_ ≠ (.slice b0 x.length d0 : Value).ownBlock ∧ some k_ ≠ (.slice X y.length a0 : Value).ownBlock)) l.out (fun k_ hk => ⟨hk.1.2, hk.2⟩)); clear l; have l := n_; clear n_; have HX14 := zK (show Kd.S k57 57 I w.heap.size (fun k_ => ((fun _ => True)) k_ ∧ ¬ ((fun k_ => some k_ = (.slice b0 x.length d0 : Value).ownBlock ∨ some k_ = (.slice X y.length a0 : Value).ownBlock)) k_) (.slice (some ⟨go10, 0, none⟩) q.length J0) q from (Kd.S_mono (zlS l.out) (fun k_ hk => ⟨trivial, fun e_ => e_.elim (fun h_ => hk.1 h_) (fun h_ => hk.2 h_)⟩))); obtain ⟨oki14, ce14, hcl14, hM14, hcc14, hfr14, hoki14, hH14⟩ := Kd.S_elem HX14.out z57 (a : Int) (z3) (by have h_ : (a : Int) < ((q.length : Int) : Int) := z3; first | exact h_ | (have e_ := (Kd.S_reads' l.out).1; omega) | simpa using h_); obtain ⟨ve14_0, ve14_1, rfl, ge14_0, ge14_1⟩ := k57_openM hM14; have HP14 := Kd.S_seg hH14 (z3) (by have h_ : (a : Int) < ((q.length : Int) : Int) := z3; first | exact h_ | (have e_ := (Kd.S_reads' l.out).1; omega) | simpa using h_) (seg := [.slice b0 x.length d0, .slice X y.length a0]) (j := 0) (show 2 ≤ 2 from by decide) (x' := (⟨x, y⟩ : S57)) (k57_mkM _ _ _ (⟨x, y⟩ : S57) (Kd.R_mono (Kd.R_tight rfl (Kd.R_mono (ok' := fun k_ => ((fun _ => True)) k_ ∧ k_ ≠ go10) (Kd.R_apart' (B.out) (Kd.S_typed l.out) (by decide)) (fun k_ hk => ⟨trivial, fun e_ => (hk.2) (by rw [e_]; rfl)⟩))) (fun _ h_ => Or.inr (Or.inl h_))) (Kd.R_mono (Kd.R_tight rfl (Kd.R_mono (ok' := fun k_ => ((fun _ => True)) k_ ∧ k_ ≠ go10) (Kd.R_apart' (D.out) (Kd.S_typed l.out) (by decide)) (fun k_ hk => ⟨trivial, fun e_ => (hk.2) (by rw [e_]; rfl)⟩))) (fun _ h_ => Or.inr (Or.inr (h_))))) (fun _ hk => hk) (fun k_ hk_ => hk_.elim (fun h_ => ((Kd.R_mono (ok' := fun k_ => ((fun _ => True)) k_ ∧ k_ ≠ go10) (Kd.R_apart' (B.out) (Kd.S_typed l.out) (by decide)) (fun k_ hk => ⟨trivial, fun e_ => (hk.2) (by rw [e_]; rfl)⟩))).1 k_ h_.symm) (fun h_ => ((Kd.R_mono (ok' := fun k_ => ((fun _ => True)) k_ ∧ k_ ≠ go10) (Kd.R_apart' (D.out) (Kd.S_typed l.out) (by decide)) (fun k_ hk => ⟨trivial, fun e_ => (hk.2) (by rw [e_]; rfl)⟩))).1 k_ h_.symm)); have N0 := hcc14 0 _ rfl; (try simp only [show (k57).sz = 2 from rfl, Nat.mul_one, Nat.add_zero] at N0); have hf14_0 := hfr14 0; (try simp only [show (k57).sz = 2 from rfl, Nat.mul_one, Nat.add_zero] at hf14_0); have O0 := hcc14 1 _ rfl; (try simp only [show (k57).sz = 2 from rfl, Nat.mul_one, Nat.add_zero] at O0); have hf14_1 := hfr14 1; (try simp only [show (k57).sz = 2 from rfl, Nat.mul_one, Nat.add_zero] at hf14_1); clear hcl14 hcc14 hfr14 hM14 hoki14 hH14) | ((with_reducible refine gate_store (t := 57) (p := 21) rfl ?_); refine store_event (t := 57) (p := 21) (v := ?vo_w15) (w1 := ((I.setCell ⟨go10, (a : Int).toNat * 2, none⟩ (.slice b0 x.length d0)).setCell ⟨go10, (a : Int).toNat * 2 + 1, none⟩ (.slice X y.length a0))) ?hg ?ho ?hn ?hr ?_; (case ho => rfl); (case hg => rfl); (case hn => rfl); (case hr => first | (go_simp; done) | (go_simp; rfl)); intro R0 hw; have hg : I.grownBy R0 (some go10) := (by rw [hw]; exact HP14.2); have hp_ : Kd.S k57 57 R0 w.heap.size (fun _ => True) (.slice (some ⟨go10, 0, none⟩) q.length J0) j0 := (by rw [hw, Ny148.out]; exact HP14.1); clear HP14; have g0 := zK (hp_); have i0 := zK ((by rw [hw]; exact zs (zs (HB.out) GB10.out) GB10.out : Below w.heap.size w R0)); revert g0 i0; clear l HB B D; intro l HB; clear hg hw hp_))
 go_roundg k1
 case measure => have := a1.out; omega
 case rel => exact ⟨(j0), (wrap64 (a + 1)), zR, H', ⟨by have := a1.out; omega⟩, ⟨zkS l⟩, ⟨zB⟩⟩
end Go.Proofs.Ytdlhmhgpafegpaa.PFnExactLmOk
