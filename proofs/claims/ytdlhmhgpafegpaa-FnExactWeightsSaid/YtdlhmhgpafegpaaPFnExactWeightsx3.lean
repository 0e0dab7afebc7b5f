-- Printed out of the translation by this session's own turned copy of a printer; Lean checks it.
import Derived.Test.YtdlhmhgpafegpaaPFnExactWeightsx0
import Derived.Test.YtdlhmhgpafegpaaPFnExactWeightsx2
namespace Go.Proofs.Ytdlhmhgpafegpaa.PFnExactWeights
open Go.RowKit Go.Proofs.YtdlhmhgpafegpaaW.PrintWords Go.Proofs.YtdlhmhgpafegpaaW.PrintLast Go.Proofs.YtdlhmhgpafegpaaW.PrintMore
attribute [local go_sem] max2_int min2_int max_two min_two max_three min_three max_four min_four
set_option linter.unusedVariables false
set_option linter.unusedSimpArgs false
set_option maxHeartbeats 8000000
set_option maxRecDepth 100000
def spec_l3SameInts.l0 : Nat → List Int → List Int → Int → Option (Bool)
 | 0, _, _, _ => none
 | k + 1, q, u, l => if l < (q.length : Int) then (if 0 ≤ l then (if l < (u.length : Int) then (if (rd q l) = (rd u l) then (spec_l3SameInts.l0 k q u (wrap64 (l + 1))) else (some false)) else (none)) else (none)) else (some true)
def spec_l3SameInts.f (k : Nat) (l : List Int) (q : List Int) : Option (Bool) := if (l.length : Int) = (q.length : Int) then (spec_l3SameInts.l0 k l q 0) else (some false)
theorem spec_l3SameInts.calls (k) (A0) (c0) (q : List Int) (A1) (c1) (u : List Int) (r : Bool) (w) (g0 : Kd.C (Kd.int .i64) w A0 q.length q) (i0 : q.length ≤ c0) (j0 : Kd.C (Kd.int .i64) w A1 u.length u) (m0 : u.length ≤ c1) (h : spec_l3SameInts.f k q u = some r) :
 Calls Try.prog 30 #[.slice A0 q.length c0, .slice A1 u.length c1] w fun e w' => e = .returned (.bool r) ∧ Drawn0 w w' := by
 have n0 := zK g0
 have F0 := zK i0
 clear g0 i0
 have o0 := zK j0
 have G0 := zK m0
 clear j0 m0
 have H : (if (q.length : Int) = (u.length : Int) then (spec_l3SameInts.l0 k q u 0) else (some false)) = some r := h
 clear h
 by_cases E : (q.length : Int) = (u.length : Int)
 rotate_left
 · rw [if_neg E] at H
   have U := beq_eq_false_iff_ne.mpr E
   have X := bne_iff_ne.mpr E
   have a0 : (q.length == u.length) = false := by first | simpa using E | (simp at E ⊢; omega)
   obtain rfl := z5 H
   go_enter Try.func30, Try.ntmps30
   go_wp2
   repeat (go_quiet (fail); try go_wp2)
   go_ret
   exact ⟨zR, zD⟩
 rw [if_pos E] at H
 have U := beq_iff_eq.mpr E
 have X := bne_eq_false_iff_eq.mpr E
 have a0 : (q.length == u.length) = true := by first | simpa using E | (simp at E ⊢; omega)
 clear E
 have H' := zK H
 clear H
 go_enter Try.func30, Try.ntmps30
 go_wp2
 repeat (go_quiet (fail); try go_wp2)
 go_loopg [5] k (fun kq v5 w' => ∃ (l : Int), v5 = .int .i64 l ∧ Aside0 (spec_l3SameInts.l0 kq q u l = some r) ∧ Aside0 (kq ≤ k) ∧ Drawn0 w w')
 case atStart => exact ⟨(0), zR, H', ⟨Nat.le_refl _⟩, zD⟩
 clear H'
 try clear c1
 try clear p2
 try clear E
 try clear U
 try clear X
 try clear a0
 obtain ⟨l, rfl, HA, p0, ⟨m1, rfl⟩⟩ := hrel
 rcases gk with _ | k1
 · exact absurd HA.out (by simp [spec_l3SameInts.l0])
 have H := HA.out
 clear HA
 simp only [spec_l3SameInts.l0] at H
 by_cases M : l < (q.length : Int)
 rotate_left
 · rw [if_neg M] at H
   have s0 := z2 M
   clear M
   obtain rfl := z5 H
   go_wp2
   repeat (go_quiet (fail); try go_wp2)
   go_ret
   exact ⟨zR, zD⟩
 rw [if_pos M] at H
 have s0 := z1 M
 clear M
 by_cases c5 : 0 ≤ l
 rotate_left
 · rw [if_neg c5] at H
   exact absurd H (by simp)
 rw [if_pos c5] at H
 have D0 := z1 c5
 clear c5
 by_cases c6 : l < (u.length : Int)
 rotate_left
 · rw [if_neg c6] at H
   exact absurd H (by simp)
 rw [if_pos c6] at H
 have E0 := z1 c6
 clear c6
 by_cases I : (rd q l) = (rd u l)
 rotate_left
 · rw [if_neg I] at H
   have t0 := beq_eq_false_iff_ne.mpr I
   have x0 := bne_iff_ne.mpr I
   obtain rfl := z5 H
   have y : 0 ≤ (l : Int) := z3
   have z : l < (q.length : Int) := z3
   obtain ⟨e0, J, O⟩ := Kd.at_int n0.out l y z
   cases J
   replace y := eq_true y
   replace z := eq_true z
   have A : 0 ≤ (l : Int) := z3
   have B : l < (u.length : Int) := z3
   obtain ⟨f0, L, T⟩ := Kd.at_int o0.out l A B
   cases L
   replace A := eq_true A
   replace B := eq_true B
   go_wp2
   repeat (go_quiet (fail); try go_wp2)
   go_ret
   exact ⟨zR, zD⟩
 rw [if_pos I] at H
 have t0 := beq_iff_eq.mpr I
 have x0 := bne_eq_false_iff_eq.mpr I
 clear I
 have H' := zK H
 clear H
 have y : 0 ≤ (l : Int) := z3
 have z : l < (q.length : Int) := z3
 obtain ⟨e0, J, O⟩ := Kd.at_int n0.out l y z
 cases J
 replace y := eq_true y
 replace z := eq_true z
 have A : 0 ≤ (l : Int) := z3
 have B : l < (u.length : Int) := z3
 obtain ⟨f0, L, T⟩ := Kd.at_int o0.out l A B
 cases L
 replace A := eq_true A
 replace B := eq_true B
 go_wp2
 repeat (go_quiet (fail); try go_wp2)
 go_roundg k1
 case measure => have := p0.out; omega
 case rel => exact ⟨(wrap64 (l + 1)), zR, H', ⟨by have := p0.out; omega⟩, zD⟩
mutual
def spec_LmOk.l0 : Nat → Bool → Int → Int → List (S57) → Option (Bool)
 | 0, _, _, _, _ => none
 | k + 1, A, u, q, l => if u < (l.length : Int) then (if 0 ≤ u then (if (((rd_T57 l u).f0).length : Int) > 4 then (some false) else ((spec_l21Tokens.f k ((rd_T57 l u).f0) q).bind fun y => (if y = true then (if (((rd_T57 l u).f1).length : Int) = q then ((spec_l21Weights.f k ((rd_T57 l u).f1)).bind fun z => (if z = true then (spec_LmOk.l1 k A u 0 q l ((rd_T57 l u).f0) ((rd_T57 l u).f1)) else (some false))) else (some false)) else (some false)))) else (none)) else (some A)
def spec_LmOk.l1 : Nat → Bool → Int → Int → Int → List (S57) → List Int → List Int → Option (Bool)
 | 0, _, _, _, _, _, _, _ => none
 | k + 1, E, A, z, q, l, u, y => if z < A then (if 0 ≤ z then (if z < (l.length : Int) then ((spec_l3SameInts.f k ((rd_T57 l z).f0) u).bind fun B => (if B = true then (some false) else (spec_LmOk.l1 k E A (wrap64 (z + 1)) q l u y))) else (none)) else (none)) else (if E = true then (spec_LmOk.l0 k true (wrap64 (A + 1)) q l) else (spec_LmOk.l0 k ((u.length : Int) == 0) (wrap64 (A + 1)) q l))
end
def spec_LmOk.f (k : Nat) (l : Int) (q : List (S57)) : Option (Bool) := (spec_l5In.f l 1 64).bind fun u => (if u = true then (if (q.length : Int) > 500 then (some false) else (spec_LmOk.l0 k false 0 l q)) else (some false))
theorem spec_LmOk.calls (k) (I) (F0) (t0) (q : List (S57)) (r : Bool) (w) (b3 : Kd.C k57 w F0 q.length q) (d3 : q.length ≤ t0) (h : spec_LmOk.f k I q = some r) :
 Calls Try.prog 8 #[.agg #[.int .i64 I, .slice F0 q.length t0]] w fun e w' => e = .returned (.bool r) ∧ Below w.heap.size w w' := by
 have I5 := Try.underlying29
 have J5 := Try.underlying57
 have S0 := zK b3
 have x5 := zK d3
 clear b3 d3
 have HB := zK (Below.refl w.heap.size w)
 have H : ((spec_l5In.f I 1 64).bind fun T2 => (if T2 = true then (if (q.length : Int) > 500 then (some false) else (spec_LmOk.l0 k false 0 I q)) else (some false))) = some r := h
 clear h
 replace H := z6 H
 obtain ⟨T2, g4, H⟩ := H
 have A2 := zK g4
 clear g4
 by_cases c3 : T2 = true
 rotate_left
 · replace c3 := Bool.eq_false_iff.mpr c3
   subst c3
   rw [if_neg (show ¬ (false = true) by decide)] at H
   obtain rfl := z5 H
   go_enter Try.func8, Try.ntmps8
   go_wp2_with (first | ((with_reducible refine gd 1 rfl ?_); (try (refine gate_guard (by rfl) ?_; dsimp only)); refine zJ 1 #[.int .i64 I, .slice F0 q.length t0] 29 ?_; intro A0 hg i4 hbox hb; have J := z8 hb; have L := zK (hbox); have M := z9 hg; have O := z9 hg; revert J L M O; clear HB; intro HB l G0 I0; clear hb hbox hg; obtain ⟨M1, N1, O1, R1⟩ := zc2 l) | (go_at_call 27; (with_reducible refine (spec_l5In.calls I 1 64 false _ A2.out).mono ?_); rintro e w' ⟨rfl, ⟨nd, rfl⟩⟩; (try first | exact ⟨rfl, _, World.drewN_drewN _ _ _⟩ | exact ⟨rfl, _, Eq.trans (World.drewN_drewN _ _ _) (congrArg (World.drewN _) (Nat.add_assoc _ _ _))⟩)))
   repeat (go_quiet (first | ((with_reducible refine gd 1 rfl ?_); (try (refine gate_guard (by rfl) ?_; dsimp only)); refine zJ 1 #[.int .i64 I, .slice F0 q.length t0] 29 ?_; intro A0 hg i4 hbox hb; have J := z8 hb; have L := zK (hbox); have M := z9 hg; have O := z9 hg; revert J L M O; clear HB; intro HB l G0 I0; clear hb hbox hg; obtain ⟨M1, N1, O1, R1⟩ := zc2 l) | (go_at_call 27; (with_reducible refine (spec_l5In.calls I 1 64 false _ A2.out).mono ?_); rintro e w' ⟨rfl, ⟨nd, rfl⟩⟩; (try first | exact ⟨rfl, _, World.drewN_drewN _ _ _⟩ | exact ⟨rfl, _, Eq.trans (World.drewN_drewN _ _ _) (congrArg (World.drewN _) (Nat.add_assoc _ _ _))⟩))); try go_wp2_with (first | ((with_reducible refine gd 1 rfl ?_); (try (refine gate_guard (by rfl) ?_; dsimp only)); refine zJ 1 #[.int .i64 I, .slice F0 q.length t0] 29 ?_; intro A0 hg i4 hbox hb; have J := z8 hb; have L := zK (hbox); have M := z9 hg; have O := z9 hg; revert J L M O; clear HB; intro HB l G0 I0; clear hb hbox hg; obtain ⟨M1, N1, O1, R1⟩ := zc2 l) | (go_at_call 27; (with_reducible refine (spec_l5In.calls I 1 64 false _ A2.out).mono ?_); rintro e w' ⟨rfl, ⟨nd, rfl⟩⟩; (try first | exact ⟨rfl, _, World.drewN_drewN _ _ _⟩ | exact ⟨rfl, _, Eq.trans (World.drewN_drewN _ _ _) (congrArg (World.drewN _) (Nat.add_assoc _ _ _))⟩))))
   go_ret
   exact ⟨zE, zB⟩
 subst c3
 rw [if_pos rfl] at H
 by_cases c4 : (q.length : Int) > 500
 · rw [if_pos c4] at H
   have U2 := z1 c4
   have V2 : decide (500 < q.length) = true := z1 (by omega)
   clear c4
   obtain rfl := z5 H
   go_enter Try.func8, Try.ntmps8
   go_wp2_with (first | ((with_reducible refine gd 1 rfl ?_); (try (refine gate_guard (by rfl) ?_; dsimp only)); refine zJ 1 #[.int .i64 I, .slice F0 q.length t0] 29 ?_; intro A0 hg w5 hbox hb; have J := z8 hb; have L := zK (hbox); have M := z9 hg; have O := z9 hg; revert J L M O; clear HB; intro HB l G0 I0; clear hb hbox hg; obtain ⟨b1, d1, e1, g1⟩ := zc2 l) | (go_at_call 27; (with_reducible refine (spec_l5In.calls I 1 64 true _ A2.out).mono ?_); rintro e w' ⟨rfl, ⟨nd, rfl⟩⟩; (try first | exact ⟨rfl, _, World.drewN_drewN _ _ _⟩ | exact ⟨rfl, _, Eq.trans (World.drewN_drewN _ _ _) (congrArg (World.drewN _) (Nat.add_assoc _ _ _))⟩)))
   repeat (go_quiet (first | ((with_reducible refine gd 1 rfl ?_); (try (refine gate_guard (by rfl) ?_; dsimp only)); refine zJ 1 #[.int .i64 I, .slice F0 q.length t0] 29 ?_; intro A0 hg w5 hbox hb; have J := z8 hb; have L := zK (hbox); have M := z9 hg; have O := z9 hg; revert J L M O; clear HB; intro HB l G0 I0; clear hb hbox hg; obtain ⟨b1, d1, e1, g1⟩ := zc2 l) | (go_at_call 27; (with_reducible refine (spec_l5In.calls I 1 64 true _ A2.out).mono ?_); rintro e w' ⟨rfl, ⟨nd, rfl⟩⟩; (try first | exact ⟨rfl, _, World.drewN_drewN _ _ _⟩ | exact ⟨rfl, _, Eq.trans (World.drewN_drewN _ _ _) (congrArg (World.drewN _) (Nat.add_assoc _ _ _))⟩))); try go_wp2_with (first | ((with_reducible refine gd 1 rfl ?_); (try (refine gate_guard (by rfl) ?_; dsimp only)); refine zJ 1 #[.int .i64 I, .slice F0 q.length t0] 29 ?_; intro A0 hg w5 hbox hb; have J := z8 hb; have L := zK (hbox); have M := z9 hg; have O := z9 hg; revert J L M O; clear HB; intro HB l G0 I0; clear hb hbox hg; obtain ⟨b1, d1, e1, g1⟩ := zc2 l) | (go_at_call 27; (with_reducible refine (spec_l5In.calls I 1 64 true _ A2.out).mono ?_); rintro e w' ⟨rfl, ⟨nd, rfl⟩⟩; (try first | exact ⟨rfl, _, World.drewN_drewN _ _ _⟩ | exact ⟨rfl, _, Eq.trans (World.drewN_drewN _ _ _) (congrArg (World.drewN _) (Nat.add_assoc _ _ _))⟩))))
   go_ret
   exact ⟨zE, zB⟩
 rw [if_neg c4] at H
 have U2 := z2 c4
 have V2 : decide (500 < q.length) = false := z2 (by omega)
 clear c4
 have H' := zK H
 clear H
 go_enter Try.func8, Try.ntmps8
 go_wp2_with (first | ((with_reducible refine gd 1 rfl ?_); (try (refine gate_guard (by rfl) ?_; dsimp only)); refine zJ 1 #[.int .i64 I, .slice F0 q.length t0] 29 ?_; intro A0 hg w7 hbox hb; have J := z8 hb; have L := zK (hbox); have M := z9 hg; have O := z9 hg; revert J L M O; clear HB; intro HB l G0 I0; clear hb hbox hg; obtain ⟨i1, j1, m1, n1⟩ := zc2 l) | (go_at_call 27; (with_reducible refine (spec_l5In.calls I 1 64 true _ A2.out).mono ?_); rintro e w' ⟨rfl, ⟨nd, rfl⟩⟩; (try first | exact ⟨rfl, _, World.drewN_drewN _ _ _⟩ | exact ⟨rfl, _, Eq.trans (World.drewN_drewN _ _ _) (congrArg (World.drewN _) (Nat.add_assoc _ _ _))⟩)))
 repeat (go_quiet (first | ((with_reducible refine gd 1 rfl ?_); (try (refine gate_guard (by rfl) ?_; dsimp only)); refine zJ 1 #[.int .i64 I, .slice F0 q.length t0] 29 ?_; intro A0 hg w7 hbox hb; have J := z8 hb; have L := zK (hbox); have M := z9 hg; have O := z9 hg; revert J L M O; clear HB; intro HB l G0 I0; clear hb hbox hg; obtain ⟨i1, j1, m1, n1⟩ := zc2 l) | (go_at_call 27; (with_reducible refine (spec_l5In.calls I 1 64 true _ A2.out).mono ?_); rintro e w' ⟨rfl, ⟨nd, rfl⟩⟩; (try first | exact ⟨rfl, _, World.drewN_drewN _ _ _⟩ | exact ⟨rfl, _, Eq.trans (World.drewN_drewN _ _ _) (congrArg (World.drewN _) (Nat.add_assoc _ _ _))⟩))); try go_wp2_with (first | ((with_reducible refine gd 1 rfl ?_); (try (refine gate_guard (by rfl) ?_; dsimp only)); refine zJ 1 #[.int .i64 I, .slice F0 q.length t0] 29 ?_; intro A0 hg w7 hbox hb; have J := z8 hb; have L := zK (hbox); have M := z9 hg; have O := z9 hg; revert J L M O; clear HB; intro HB l G0 I0; clear hb hbox hg; obtain ⟨i1, j1, m1, n1⟩ := zc2 l) | (go_at_call 27; (with_reducible refine (spec_l5In.calls I 1 64 true _ A2.out).mono ?_); rintro e w' ⟨rfl, ⟨nd, rfl⟩⟩; (try first | exact ⟨rfl, _, World.drewN_drewN _ _ _⟩ | exact ⟨rfl, _, Eq.trans (World.drewN_drewN _ _ _) (congrArg (World.drewN _) (Nat.add_assoc _ _ _))⟩))))
 go_loopg [3, 4] k (fun kq v3 v4 w' => ∃ (J1 : Bool) (z : Int), v3 = .bool J1 ∧ v4 = .int .i64 z ∧ Aside0 (spec_LmOk.l0 kq J1 z I q = some r) ∧ Aside0 (kq ≤ k) ∧ Aside0 (w'.heap[A0]? = some (.cells #[.int .i64 I, (.slice F0 q.length t0)] 29 (0, 0))) ∧ Aside0 (Below w.heap.size w w'))
 case atStart => exact ⟨(false), (0), zR, zR, H', ⟨Nat.le_refl _⟩, ⟨zM l⟩, ⟨zB⟩⟩
 clear H'
 try clear p2
 try clear c3
 try clear c4
 try clear U2
 try clear V2
 try clear c8
 try clear b1 d1 e1 g1
 try clear i1 j1 m1 n1
 obtain ⟨J1, z, rfl, rfl, HA, S1, l, HB⟩ := hrel
 rcases gk with _ | k1
 · exact absurd HA.out (by simp [spec_LmOk.l0])
 have H := HA.out
 clear HA
 simp only [spec_LmOk.l0] at H
 by_cases c9 : z < (q.length : Int)
 rotate_left
 · rw [if_neg c9] at H
   have S3 := z2 c9
   clear c9
   obtain rfl := z5 H
   obtain ⟨t4, x4, y4, A4⟩ := zc2 l
   go_wp2
   repeat (go_quiet (fail); try go_wp2)
   go_ret
   exact ⟨zE, zB⟩
 rw [if_pos c9] at H
 have S3 := z1 c9
 clear c9
 by_cases N2 : 0 ≤ z
 rotate_left
 · rw [if_neg N2] at H
   exact absurd H (by simp)
 rw [if_pos N2] at H
 have e4 := z1 N2
 clear N2
 by_cases L1 : (((rd_T57 q z).f0).length : Int) > 4
 · rw [if_pos L1] at H
   have e3 := z1 L1
   have f3 : decide (4 < ((rd_T57 q z).f0).length) = true := z1 (by omega)
   clear L1
   obtain rfl := z5 H
   obtain ⟨E3, F3, G3, I3⟩ := zc2 l
   have j0 : 0 ≤ (z : Int) := z3
   have m0 : z < (q.length : Int) := z3
   obtain ⟨T0, B0, C0, D0, E0, U0, T, U, a0, b0, c0, d0⟩ := at_T57 S0.out z j0 m0
   cases U0
   (try replace T := zX HB T)
   (try replace U := zX HB U)
   have B := zK b0
   have E := zK a0
   clear b0 a0
   have o0 := zK d0
   have p0 := zK c0
   clear d0 c0
   replace j0 := eq_true j0
   replace m0 := eq_true m0
   go_wp2_with (first | ((with_reducible refine gd 5 rfl ?_); (try (refine gate_guard (by rfl) ?_; dsimp only)); refine zJ 5 #[.slice none 0 0, .slice none 0 0] 57 ?_; intro X hg j4 hbox hb; have J := z7 l hb; have L := z8 hb; have M := zK (hbox); have O := z9 hg; have e0 := z9 hg; have g0 := zHH hg l; have i0 := zGG hg l; revert J L M O e0 g0 i0; clear l HB; intro l HB A q0 s0 u y; clear hb hbox hg; have g3 := y.out; have i3 := u.out; obtain ⟨o1, s1, t1, x1⟩ := zc2 A))
   repeat (go_quiet (first | ((with_reducible refine gd 5 rfl ?_); (try (refine gate_guard (by rfl) ?_; dsimp only)); refine zJ 5 #[.slice none 0 0, .slice none 0 0] 57 ?_; intro X hg j4 hbox hb; have J := z7 l hb; have L := z8 hb; have M := zK (hbox); have O := z9 hg; have e0 := z9 hg; have g0 := zHH hg l; have i0 := zGG hg l; revert J L M O e0 g0 i0; clear l HB; intro l HB A q0 s0 u y; clear hb hbox hg; have g3 := y.out; have i3 := u.out; obtain ⟨o1, s1, t1, x1⟩ := zc2 A)); try go_wp2_with (first | ((with_reducible refine gd 5 rfl ?_); (try (refine gate_guard (by rfl) ?_; dsimp only)); refine zJ 5 #[.slice none 0 0, .slice none 0 0] 57 ?_; intro X hg j4 hbox hb; have J := z7 l hb; have L := z8 hb; have M := zK (hbox); have O := z9 hg; have e0 := z9 hg; have g0 := zHH hg l; have i0 := zGG hg l; revert J L M O e0 g0 i0; clear l HB; intro l HB A q0 s0 u y; clear hb hbox hg; have g3 := y.out; have i3 := u.out; obtain ⟨o1, s1, t1, x1⟩ := zc2 A)))
   go_ret
   exact ⟨zE, zB⟩
 rw [if_neg L1] at H
 have e3 := z2 L1
 have f3 : decide (4 < ((rd_T57 q z).f0).length) = false := z2 (by omega)
 clear L1
 replace H := z6 H
 obtain ⟨p4, T3, H⟩ := H
 have V0 := zK T3
 clear T3
 by_cases O2 : p4 = true
 rotate_left
 · replace O2 := Bool.eq_false_iff.mpr O2
   subst O2
   rw [if_neg (show ¬ (false = true) by decide)] at H
   obtain rfl := z5 H
   obtain ⟨B4, C4, D4, E4⟩ := zc2 l
   have j0 : 0 ≤ (z : Int) := z3
   have m0 : z < (q.length : Int) := z3
   obtain ⟨T0, B0, C0, D0, E0, U0, T, U, a0, b0, c0, d0⟩ := at_T57 S0.out z j0 m0
   cases U0
   (try replace T := zX HB T)
   (try replace U := zX HB U)
   have B := zK b0
   have E := zK a0
   clear b0 a0
   have o0 := zK d0
   have p0 := zK c0
   clear d0 c0
   replace j0 := eq_true j0
   replace m0 := eq_true m0
   go_wp2_with (first | ((with_reducible refine gd 5 rfl ?_); (try (refine gate_guard (by rfl) ?_; dsimp only)); refine zJ 5 #[.slice none 0 0, .slice none 0 0] 57 ?_; intro X hg l4 hbox hb; have J := z7 l hb; have L := z8 hb; have M := zK (hbox); have O := z9 hg; have e0 := z9 hg; have g0 := zHH hg l; have i0 := zGG hg l; revert J L M O e0 g0 i0; clear l HB; intro l HB A q0 s0 u y; clear hb hbox hg; have j3 := y.out; have l3 := u.out; obtain ⟨T1, U1, V1, X1⟩ := zc2 A; obtain ⟨a2, b2, d2, e2⟩ := zc2 l) | (go_at_call 28; (with_reducible refine (spec_l21Tokens.calls k1 _ _ ((rd_T57 q z).f0) I false _ ?side1 ?side2 V0.out).mono ?_); (case side1 => exact z4 B.out zB); (case side2 => exact E.out); rintro e w' ⟨rfl, ⟨nd, rfl⟩⟩; (try first | exact ⟨rfl, _, World.drewN_drewN _ _ _⟩ | exact ⟨rfl, _, Eq.trans (World.drewN_drewN _ _ _) (congrArg (World.drewN _) (Nat.add_assoc _ _ _))⟩)))
   repeat (go_quiet (first | ((with_reducible refine gd 5 rfl ?_); (try (refine gate_guard (by rfl) ?_; dsimp only)); refine zJ 5 #[.slice none 0 0, .slice none 0 0] 57 ?_; intro X hg l4 hbox hb; have J := z7 l hb; have L := z8 hb; have M := zK (hbox); have O := z9 hg; have e0 := z9 hg; have g0 := zHH hg l; have i0 := zGG hg l; revert J L M O e0 g0 i0; clear l HB; intro l HB A q0 s0 u y; clear hb hbox hg; have j3 := y.out; have l3 := u.out; obtain ⟨T1, U1, V1, X1⟩ := zc2 A; obtain ⟨a2, b2, d2, e2⟩ := zc2 l) | (go_at_call 28; (with_reducible refine (spec_l21Tokens.calls k1 _ _ ((rd_T57 q z).f0) I false _ ?side1 ?side2 V0.out).mono ?_); (case side1 => exact z4 B.out zB); (case side2 => exact E.out); rintro e w' ⟨rfl, ⟨nd, rfl⟩⟩; (try first | exact ⟨rfl, _, World.drewN_drewN _ _ _⟩ | exact ⟨rfl, _, Eq.trans (World.drewN_drewN _ _ _) (congrArg (World.drewN _) (Nat.add_assoc _ _ _))⟩))); try go_wp2_with (first | ((with_reducible refine gd 5 rfl ?_); (try (refine gate_guard (by rfl) ?_; dsimp only)); refine zJ 5 #[.slice none 0 0, .slice none 0 0] 57 ?_; intro X hg l4 hbox hb; have J := z7 l hb; have L := z8 hb; have M := zK (hbox); have O := z9 hg; have e0 := z9 hg; have g0 := zHH hg l; have i0 := zGG hg l; revert J L M O e0 g0 i0; clear l HB; intro l HB A q0 s0 u y; clear hb hbox hg; have j3 := y.out; have l3 := u.out; obtain ⟨T1, U1, V1, X1⟩ := zc2 A; obtain ⟨a2, b2, d2, e2⟩ := zc2 l) | (go_at_call 28; (with_reducible refine (spec_l21Tokens.calls k1 _ _ ((rd_T57 q z).f0) I false _ ?side1 ?side2 V0.out).mono ?_); (case side1 => exact z4 B.out zB); (case side2 => exact E.out); rintro e w' ⟨rfl, ⟨nd, rfl⟩⟩; (try first | exact ⟨rfl, _, World.drewN_drewN _ _ _⟩ | exact ⟨rfl, _, Eq.trans (World.drewN_drewN _ _ _) (congrArg (World.drewN _) (Nat.add_assoc _ _ _))⟩))))
   go_ret
   exact ⟨zE, zB⟩
 subst O2
 rw [if_pos rfl] at H
 by_cases I1 : (((rd_T57 q z).f1).length : Int) = I
 rotate_left
 · rw [if_neg I1] at H
   have m3 := beq_eq_false_iff_ne.mpr I1
   have n3 := bne_iff_ne.mpr I1
   obtain rfl := z5 H
   obtain ⟨F4, G4, I4, J4⟩ := zc2 l
   have j0 : 0 ≤ (z : Int) := z3
   have m0 : z < (q.length : Int) := z3
   obtain ⟨T0, B0, C0, D0, E0, U0, T, U, a0, b0, c0, d0⟩ := at_T57 S0.out z j0 m0
   cases U0
   (try replace T := zX HB T)
   (try replace U := zX HB U)
   have B := zK b0
   have E := zK a0
   clear b0 a0
   have o0 := zK d0
   have p0 := zK c0
   clear d0 c0
   replace j0 := eq_true j0
   replace m0 := eq_true m0
   go_wp2_with (first | ((with_reducible refine gd 5 rfl ?_); (try (refine gate_guard (by rfl) ?_; dsimp only)); refine zJ 5 #[.slice none 0 0, .slice none 0 0] 57 ?_; intro X hg m4 hbox hb; have J := z7 l hb; have L := z8 hb; have M := zK (hbox); have O := z9 hg; have e0 := z9 hg; have g0 := zHH hg l; have i0 := zGG hg l; revert J L M O e0 g0 i0; clear l HB; intro l HB A q0 s0 u y; clear hb hbox hg; have o3 := y.out; have p3 := u.out; obtain ⟨f2, g2, i2, j2⟩ := zc2 A; obtain ⟨l2, m2, n2, o2⟩ := zc2 l) | (go_at_call 28; (with_reducible refine (spec_l21Tokens.calls k1 _ _ ((rd_T57 q z).f0) I true _ ?side1 ?side2 V0.out).mono ?_); (case side1 => exact z4 B.out zB); (case side2 => exact E.out); rintro e w' ⟨rfl, ⟨nd, rfl⟩⟩; (try first | exact ⟨rfl, _, World.drewN_drewN _ _ _⟩ | exact ⟨rfl, _, Eq.trans (World.drewN_drewN _ _ _) (congrArg (World.drewN _) (Nat.add_assoc _ _ _))⟩)))
   repeat (go_quiet (first | ((with_reducible refine gd 5 rfl ?_); (try (refine gate_guard (by rfl) ?_; dsimp only)); refine zJ 5 #[.slice none 0 0, .slice none 0 0] 57 ?_; intro X hg m4 hbox hb; have J := z7 l hb; have L := z8 hb; have M := zK (hbox); have O := z9 hg; have e0 := z9 hg; have g0 := zHH hg l; have i0 := zGG hg l; revert J L M O e0 g0 i0; clear l HB; intro l HB A q0 s0 u y; clear hb hbox hg; have o3 := y.out; have p3 := u.out; obtain ⟨f2, g2, i2, j2⟩ := zc2 A; obtain ⟨l2, m2, n2, o2⟩ := zc2 l) | (go_at_call 28; (with_reducible refine (spec_l21Tokens.calls k1 _ _ ((rd_T57 q z).f0) I true _ ?side1 ?side2 V0.out).mono ?_); (case side1 => exact z4 B.out zB); (case side2 => exact E.out); rintro e w' ⟨rfl, ⟨nd, rfl⟩⟩; (try first | exact ⟨rfl, _, World.drewN_drewN _ _ _⟩ | exact ⟨rfl, _, Eq.trans (World.drewN_drewN _ _ _) (congrArg (World.drewN _) (Nat.add_assoc _ _ _))⟩))); try go_wp2_with (first | ((with_reducible refine gd 5 rfl ?_); (try (refine gate_guard (by rfl) ?_; dsimp only)); refine zJ 5 #[.slice none 0 0, .slice none 0 0] 57 ?_; intro X hg m4 hbox hb; have J := z7 l hb; have L := z8 hb; have M := zK (hbox); have O := z9 hg; have e0 := z9 hg; have g0 := zHH hg l; have i0 := zGG hg l; revert J L M O e0 g0 i0; clear l HB; intro l HB A q0 s0 u y; clear hb hbox hg; have o3 := y.out; have p3 := u.out; obtain ⟨f2, g2, i2, j2⟩ := zc2 A; obtain ⟨l2, m2, n2, o2⟩ := zc2 l) | (go_at_call 28; (with_reducible refine (spec_l21Tokens.calls k1 _ _ ((rd_T57 q z).f0) I true _ ?side1 ?side2 V0.out).mono ?_); (case side1 => exact z4 B.out zB); (case side2 => exact E.out); rintro e w' ⟨rfl, ⟨nd, rfl⟩⟩; (try first | exact ⟨rfl, _, World.drewN_drewN _ _ _⟩ | exact ⟨rfl, _, Eq.trans (World.drewN_drewN _ _ _) (congrArg (World.drewN _) (Nat.add_assoc _ _ _))⟩))))
   go_ret
   exact ⟨zE, zB⟩
 rw [if_pos I1] at H
 have m3 := beq_iff_eq.mpr I1
 have n3 := bne_eq_false_iff_eq.mpr I1
 clear I1
 replace H := z6 H
 obtain ⟨q4, U3, H⟩ := H
 have q2 := zK U3
 clear U3
 by_cases R2 : q4 = true
 rotate_left
 · replace R2 := Bool.eq_false_iff.mpr R2
   subst R2
   rw [if_neg (show ¬ (false = true) by decide)] at H
   obtain rfl := z5 H
   obtain ⟨L4, M4, N4, O4⟩ := zc2 l
   have j0 : 0 ≤ (z : Int) := z3
   have m0 : z < (q.length : Int) := z3
   obtain ⟨T0, B0, C0, D0, E0, U0, T, U, a0, b0, c0, d0⟩ := at_T57 S0.out z j0 m0
   cases U0
   (try replace T := zX HB T)
   (try replace U := zX HB U)
   have B := zK b0
   have E := zK a0
   clear b0 a0
   have o0 := zK d0
   have p0 := zK c0
   clear d0 c0
   replace j0 := eq_true j0
   replace m0 := eq_true m0
   go_wp2_with (first | ((with_reducible refine gd 5 rfl ?_); (try (refine gate_guard (by rfl) ?_; dsimp only)); refine zJ 5 #[.slice none 0 0, .slice none 0 0] 57 ?_; intro X hg n4 hbox hb; have J := z7 l hb; have L := z8 hb; have M := zK (hbox); have O := z9 hg; have e0 := z9 hg; have g0 := zHH hg l; have i0 := zGG hg l; revert J L M O e0 g0 i0; clear l HB; intro l HB A q0 s0 u y; clear hb hbox hg; have q3 := y.out; have s3 := u.out; obtain ⟨s2, t2, x2, y2⟩ := zc2 A; obtain ⟨B2, C2, D2, E2⟩ := zc2 l) | (go_at_call 28; (with_reducible refine (spec_l21Tokens.calls k1 _ _ ((rd_T57 q z).f0) I true _ ?side1 ?side2 V0.out).mono ?_); (case side1 => exact z4 B.out zB); (case side2 => exact E.out); rintro e w' ⟨rfl, ⟨nd, rfl⟩⟩; (try first | exact ⟨rfl, _, World.drewN_drewN _ _ _⟩ | exact ⟨rfl, _, Eq.trans (World.drewN_drewN _ _ _) (congrArg (World.drewN _) (Nat.add_assoc _ _ _))⟩)) | (go_at_call 29; (with_reducible refine (spec_l21Weights.calls k1 _ _ ((rd_T57 q z).f1) false _ ?side1 ?side2 q2.out).mono ?_); (case side1 => exact z4 o0.out zB); (case side2 => exact p0.out); rintro e w' ⟨rfl, ⟨nd, rfl⟩⟩; (try first | exact ⟨rfl, _, World.drewN_drewN _ _ _⟩ | exact ⟨rfl, _, Eq.trans (World.drewN_drewN _ _ _) (congrArg (World.drewN _) (Nat.add_assoc _ _ _))⟩)))
   repeat (go_quiet (first | ((with_reducible refine gd 5 rfl ?_); (try (refine gate_guard (by rfl) ?_; dsimp only)); refine zJ 5 #[.slice none 0 0, .slice none 0 0] 57 ?_; intro X hg n4 hbox hb; have J := z7 l hb; have L := z8 hb; have M := zK (hbox); have O := z9 hg; have e0 := z9 hg; have g0 := zHH hg l; have i0 := zGG hg l; revert J L M O e0 g0 i0; clear l HB; intro l HB A q0 s0 u y; clear hb hbox hg; have q3 := y.out; have s3 := u.out; obtain ⟨s2, t2, x2, y2⟩ := zc2 A; obtain ⟨B2, C2, D2, E2⟩ := zc2 l) | (go_at_call 28; (with_reducible refine (spec_l21Tokens.calls k1 _ _ ((rd_T57 q z).f0) I true _ ?side1 ?side2 V0.out).mono ?_); (case side1 => exact z4 B.out zB); (case side2 => exact E.out); rintro e w' ⟨rfl, ⟨nd, rfl⟩⟩; (try first | exact ⟨rfl, _, World.drewN_drewN _ _ _⟩ | exact ⟨rfl, _, Eq.trans (World.drewN_drewN _ _ _) (congrArg (World.drewN _) (Nat.add_assoc _ _ _))⟩)) | (go_at_call 29; (with_reducible refine (spec_l21Weights.calls k1 _ _ ((rd_T57 q z).f1) false _ ?side1 ?side2 q2.out).mono ?_); (case side1 => exact z4 o0.out zB); (case side2 => exact p0.out); rintro e w' ⟨rfl, ⟨nd, rfl⟩⟩; (try first | exact ⟨rfl, _, World.drewN_drewN _ _ _⟩ | exact ⟨rfl, _, Eq.trans (World.drewN_drewN _ _ _) (congrArg (World.drewN _) (Nat.add_assoc _ _ _))⟩))); try go_wp2_with (first | ((with_reducible refine gd 5 rfl ?_); (try (refine gate_guard (by rfl) ?_; dsimp only)); refine zJ 5 #[.slice none 0 0, .slice none 0 0] 57 ?_; intro X hg n4 hbox hb; have J := z7 l hb; have L := z8 hb; have M := zK (hbox); have O := z9 hg; have e0 := z9 hg; have g0 := zHH hg l; have i0 := zGG hg l; revert J L M O e0 g0 i0; clear l HB; intro l HB A q0 s0 u y; clear hb hbox hg; have q3 := y.out; have s3 := u.out; obtain ⟨s2, t2, x2, y2⟩ := zc2 A; obtain ⟨B2, C2, D2, E2⟩ := zc2 l) | (go_at_call 28; (with_reducible refine (spec_l21Tokens.calls k1 _ _ ((rd_T57 q z).f0) I true _ ?side1 ?side2 V0.out).mono ?_); (case side1 => exact z4 B.out zB); (case side2 => exact E.out); rintro e w' ⟨rfl, ⟨nd, rfl⟩⟩; (try first | exact ⟨rfl, _, World.drewN_drewN _ _ _⟩ | exact ⟨rfl, _, Eq.trans (World.drewN_drewN _ _ _) (congrArg (World.drewN _) (Nat.add_assoc _ _ _))⟩)) | (go_at_call 29; (with_reducible refine (spec_l21Weights.calls k1 _ _ ((rd_T57 q z).f1) false _ ?side1 ?side2 q2.out).mono ?_); (case side1 => exact z4 o0.out zB); (case side2 => exact p0.out); rintro e w' ⟨rfl, ⟨nd, rfl⟩⟩; (try first | exact ⟨rfl, _, World.drewN_drewN _ _ _⟩ | exact ⟨rfl, _, Eq.trans (World.drewN_drewN _ _ _) (congrArg (World.drewN _) (Nat.add_assoc _ _ _))⟩))))
   go_ret
   exact ⟨zE, zB⟩
 subst R2
 rw [if_pos rfl] at H
 have H' := zK H
 clear H
 obtain ⟨J3, L3, M3, N3⟩ := zc2 l
 have j0 : 0 ≤ (z : Int) := z3
 have m0 : z < (q.length : Int) := z3
 obtain ⟨T0, B0, C0, D0, E0, U0, T, U, a0, b0, c0, d0⟩ := at_T57 S0.out z j0 m0
 cases U0
 (try replace T := zX HB T)
 (try replace U := zX HB U)
 have B := zK b0
 have E := zK a0
 clear b0 a0
 have o0 := zK d0
 have p0 := zK c0
 clear d0 c0
 replace j0 := eq_true j0
 replace m0 := eq_true m0
 go_wp2_with (first | ((with_reducible refine gd 5 rfl ?_); (try (refine gate_guard (by rfl) ?_; dsimp only)); refine zJ 5 #[.slice none 0 0, .slice none 0 0] 57 ?_; intro X hg o4 hbox hb; have J := z7 l hb; have L := z8 hb; have M := zK (hbox); have O := z9 hg; have e0 := z9 hg; have g0 := zHH hg l; have i0 := zGG hg l; revert J L M O e0 g0 i0; clear l HB; intro l HB A q0 s0 u y; clear hb hbox hg; have t3 := y.out; have x3 := u.out; obtain ⟨y1, A1, B1, C1⟩ := zc2 A; obtain ⟨D1, E1, F1, G1⟩ := zc2 l) | (go_at_call 28; (with_reducible refine (spec_l21Tokens.calls k1 _ _ ((rd_T57 q z).f0) I true _ ?side1 ?side2 V0.out).mono ?_); (case side1 => exact z4 B.out zB); (case side2 => exact E.out); rintro e w' ⟨rfl, ⟨nd, rfl⟩⟩; (try first | exact ⟨rfl, _, World.drewN_drewN _ _ _⟩ | exact ⟨rfl, _, Eq.trans (World.drewN_drewN _ _ _) (congrArg (World.drewN _) (Nat.add_assoc _ _ _))⟩)) | (go_at_call 29; (with_reducible refine (spec_l21Weights.calls k1 _ _ ((rd_T57 q z).f1) true _ ?side1 ?side2 q2.out).mono ?_); (case side1 => exact z4 o0.out zB); (case side2 => exact p0.out); rintro e w' ⟨rfl, ⟨nd, rfl⟩⟩; (try first | exact ⟨rfl, _, World.drewN_drewN _ _ _⟩ | exact ⟨rfl, _, Eq.trans (World.drewN_drewN _ _ _) (congrArg (World.drewN _) (Nat.add_assoc _ _ _))⟩)))
 repeat (go_quiet (first | ((with_reducible refine gd 5 rfl ?_); (try (refine gate_guard (by rfl) ?_; dsimp only)); refine zJ 5 #[.slice none 0 0, .slice none 0 0] 57 ?_; intro X hg o4 hbox hb; have J := z7 l hb; have L := z8 hb; have M := zK (hbox); have O := z9 hg; have e0 := z9 hg; have g0 := zHH hg l; have i0 := zGG hg l; revert J L M O e0 g0 i0; clear l HB; intro l HB A q0 s0 u y; clear hb hbox hg; have t3 := y.out; have x3 := u.out; obtain ⟨y1, A1, B1, C1⟩ := zc2 A; obtain ⟨D1, E1, F1, G1⟩ := zc2 l) | (go_at_call 28; (with_reducible refine (spec_l21Tokens.calls k1 _ _ ((rd_T57 q z).f0) I true _ ?side1 ?side2 V0.out).mono ?_); (case side1 => exact z4 B.out zB); (case side2 => exact E.out); rintro e w' ⟨rfl, ⟨nd, rfl⟩⟩; (try first | exact ⟨rfl, _, World.drewN_drewN _ _ _⟩ | exact ⟨rfl, _, Eq.trans (World.drewN_drewN _ _ _) (congrArg (World.drewN _) (Nat.add_assoc _ _ _))⟩)) | (go_at_call 29; (with_reducible refine (spec_l21Weights.calls k1 _ _ ((rd_T57 q z).f1) true _ ?side1 ?side2 q2.out).mono ?_); (case side1 => exact z4 o0.out zB); (case side2 => exact p0.out); rintro e w' ⟨rfl, ⟨nd, rfl⟩⟩; (try first | exact ⟨rfl, _, World.drewN_drewN _ _ _⟩ | exact ⟨rfl, _, Eq.trans (World.drewN_drewN _ _ _) (congrArg (World.drewN _) (Nat.add_assoc _ _ _))⟩))); try go_wp2_with (first | ((with_reducible refine gd 5 rfl ?_); (try (refine gate_guard (by rfl) ?_; dsimp only)); refine zJ 5 #[.slice none 0 0, .slice none 0 0] 57 ?_; intro X hg o4 hbox hb; have J := z7 l hb; have L := z8 hb; have M := zK (hbox); have O := z9 hg; have e0 := z9 hg; have g0 := zHH hg l; have i0 := zGG hg l; revert J L M O e0 g0 i0; clear l HB; intro l HB A q0 s0 u y; clear hb hbox hg; have t3 := y.out; have x3 := u.out; obtain ⟨y1, A1, B1, C1⟩ := zc2 A; obtain ⟨D1, E1, F1, G1⟩ := zc2 l) | (go_at_call 28; (with_reducible refine (spec_l21Tokens.calls k1 _ _ ((rd_T57 q z).f0) I true _ ?side1 ?side2 V0.out).mono ?_); (case side1 => exact z4 B.out zB); (case side2 => exact E.out); rintro e w' ⟨rfl, ⟨nd, rfl⟩⟩; (try first | exact ⟨rfl, _, World.drewN_drewN _ _ _⟩ | exact ⟨rfl, _, Eq.trans (World.drewN_drewN _ _ _) (congrArg (World.drewN _) (Nat.add_assoc _ _ _))⟩)) | (go_at_call 29; (with_reducible refine (spec_l21Weights.calls k1 _ _ ((rd_T57 q z).f1) true _ ?side1 ?side2 q2.out).mono ?_); (case side1 => exact z4 o0.out zB); (case side2 => exact p0.out); rintro e w' ⟨rfl, ⟨nd, rfl⟩⟩; (try first | exact ⟨rfl, _, World.drewN_drewN _ _ _⟩ | exact ⟨rfl, _, Eq.trans (World.drewN_drewN _ _ _) (congrArg (World.drewN _) (Nat.add_assoc _ _ _))⟩))))
 go_loopg [6] k1 (fun kq v6 w' => ∃ (n0 : Int), v6 = .int .i64 n0 ∧ Aside0 (spec_LmOk.l1 kq J1 z n0 I q ((rd_T57 q z).f0) ((rd_T57 q z).f1) = some r) ∧ Aside0 (kq ≤ k1) ∧ Aside0 (w'.heap[A0]? = some (.cells #[.int .i64 I, (.slice (some T0) q.length t0)] 29 (0, 0))) ∧ Aside0 (w'.heap[X]? = some (.cells #[(.slice B0 ((rd_T57 q z).f0).length C0), (.slice D0 ((rd_T57 q z).f1).length E0)] 57 (0, 0))) ∧ Aside0 (Below w.heap.size w w'))
 case atStart => exact ⟨(0), zR, H', ⟨Nat.le_refl _⟩, ⟨zV l⟩, ⟨zW A⟩, ⟨zB⟩⟩
 clear H'
 try clear c1
 try clear p1
 try clear q1
 try clear N5
 try clear c2
 try clear p2
 try clear c3
 try clear c4
 try clear U2
 try clear V2
 try clear c8
 try clear c9
 try clear S3
 try clear N2
 try clear e4
 try clear L1
 try clear e3
 try clear f3
 try clear O5
 try clear R5
 try clear S5
 try clear T5
 try clear M5
 try clear O2
 try clear I1
 try clear m3
 try clear n3
 try clear R2
 try clear U5
 try clear E3 F3 G3 I3
 try clear o1 s1 t1 x1
 try clear J3 L3 M3 N3
 try clear y1 A1 B1 C1
 try clear D1 E1 F1 G1
 try clear b1 d1 e1 g1
 try clear i1 j1 m1 n1
 try clear T
 try clear U
 try clear j0
 try clear p2
 try clear m0
 obtain ⟨n0, rfl, HA, F2, l, A, HB⟩ := hrel
 rcases gk with _ | k2
 · exact absurd HA.out (by simp [spec_LmOk.l1])
 have H := HA.out
 clear HA
 simp only [spec_LmOk.l1] at H
 by_cases G2 : n0 < z
 rotate_left
 · rw [if_neg G2] at H
   have f4 := z2 G2
   clear G2
   by_cases y3 : J1 = true
   · subst y3
     rw [if_pos rfl] at H
     have H' := zK H
     clear H
     go_wp2
     repeat (go_quiet (fail); try go_wp2)
     go_roundg k2
     case measure => have := S1.out; have := F2.out; omega
     case rel => exact ⟨(true), (wrap64 (z + 1)), zR, zR, H', ⟨by have := S1.out; have := F2.out; omega⟩, ⟨zM l⟩, ⟨zB⟩⟩
   replace y3 := Bool.eq_false_iff.mpr y3
   subst y3
   rw [if_neg (show ¬ (false = true) by decide)] at H
   have H' := zK H
   clear H
   have y5 := y.out
   have A5 := u.out
   have R4 : wr.cell? ⟨X, 0, none⟩ = some (.slice B0 ((rd_T57 q z).f0).length C0) := zy A 0
   have S4 : wr.cell? ⟨X, 1, none⟩ = some (.slice D0 ((rd_T57 q z).f1).length E0) := zy A 1
   have T4 := zf A.out 0
   have U4 := zf A.out 1
   go_wp2
   repeat (go_quiet (fail); try go_wp2)
   go_roundg k2
   case measure => have := S1.out; have := F2.out; omega
   case rel => exact ⟨(((((rd_T57 q z).f0).length : Int) == 0)), (wrap64 (z + 1)), zR, zR, H', ⟨by have := S1.out; have := F2.out; omega⟩, ⟨zM l⟩, ⟨zB⟩⟩
 rw [if_pos G2] at H
 have f4 := z1 G2
 clear G2
 by_cases A3 : 0 ≤ n0
 rotate_left
 · rw [if_neg A3] at H
   exact absurd H (by simp)
 rw [if_pos A3] at H
 have B5 := z1 A3
 clear A3
 by_cases B3 : n0 < (q.length : Int)
 rotate_left
 · rw [if_neg B3] at H
   exact absurd H (by simp)
 rw [if_pos B3] at H
 have C5 := z1 B3
 clear B3
 replace H := z6 H
 obtain ⟨s4, V3, H⟩ := H
 have I2 := zK V3
 clear V3
 by_cases C3 : s4 = true
 · subst C3
   rw [if_pos rfl] at H
   obtain rfl := z5 H
   have D5 := u.out
   have E5 := y.out
   obtain ⟨V4, X4, a5, b5⟩ := zc2 l
   have X0 : 0 ≤ (n0 : Int) := z3
   have a1 : n0 < (q.length : Int) := z3
   obtain ⟨L2, X3, a4, b4, d4, a3, J0, L0, M0, N0, O0, R0⟩ := at_T57 S0.out n0 X0 a1
   obtain rfl : T0 = L2 := (by injection a3)
   (try replace J0 := zX HB J0)
   (try replace L0 := zX HB L0)
   have x0 := zK N0
   have y0 := zK M0
   clear N0 M0
   have O3 := zK R0
   have R3 := zK O0
   clear R0 O0
   replace X0 := eq_true X0
   replace a1 := eq_true a1
   have c5 : wr.cell? ⟨X, 0, none⟩ = some (.slice B0 ((rd_T57 q z).f0).length C0) := zy A 0
   have d5 : wr.cell? ⟨X, 1, none⟩ = some (.slice D0 ((rd_T57 q z).f1).length E0) := zy A 1
   have e5 := zf A.out 0
   have f5 := zf A.out 1
   go_wp2_with (first | (go_at_call 30; (with_reducible refine (spec_l3SameInts.calls k2 _ _ ((rd_T57 q n0).f0) _ _ ((rd_T57 q z).f0) true _ ?side1 ?side2 ?side3 ?side4 I2.out).mono ?_); (case side1 => exact zS x0); (case side2 => exact y0.out); (case side3 => exact zS B); (case side4 => exact E.out); rintro e w' ⟨rfl, ⟨nd, rfl⟩⟩; (try first | exact ⟨rfl, _, World.drewN_drewN _ _ _⟩ | exact ⟨rfl, _, Eq.trans (World.drewN_drewN _ _ _) (congrArg (World.drewN _) (Nat.add_assoc _ _ _))⟩)))
   repeat (go_quiet (first | (go_at_call 30; (with_reducible refine (spec_l3SameInts.calls k2 _ _ ((rd_T57 q n0).f0) _ _ ((rd_T57 q z).f0) true _ ?side1 ?side2 ?side3 ?side4 I2.out).mono ?_); (case side1 => exact zS x0); (case side2 => exact y0.out); (case side3 => exact zS B); (case side4 => exact E.out); rintro e w' ⟨rfl, ⟨nd, rfl⟩⟩; (try first | exact ⟨rfl, _, World.drewN_drewN _ _ _⟩ | exact ⟨rfl, _, Eq.trans (World.drewN_drewN _ _ _) (congrArg (World.drewN _) (Nat.add_assoc _ _ _))⟩))); try go_wp2_with (first | (go_at_call 30; (with_reducible refine (spec_l3SameInts.calls k2 _ _ ((rd_T57 q n0).f0) _ _ ((rd_T57 q z).f0) true _ ?side1 ?side2 ?side3 ?side4 I2.out).mono ?_); (case side1 => exact zS x0); (case side2 => exact y0.out); (case side3 => exact zS B); (case side4 => exact E.out); rintro e w' ⟨rfl, ⟨nd, rfl⟩⟩; (try first | exact ⟨rfl, _, World.drewN_drewN _ _ _⟩ | exact ⟨rfl, _, Eq.trans (World.drewN_drewN _ _ _) (congrArg (World.drewN _) (Nat.add_assoc _ _ _))⟩))))
   go_ret
   exact ⟨zE, zB⟩
 replace C3 := Bool.eq_false_iff.mpr C3
 subst C3
 rw [if_neg (show ¬ (false = true) by decide)] at H
 have H' := zK H
 clear H
 have F5 := u.out
 have G5 := y.out
 obtain ⟨g5, i5, j5, l5⟩ := zc2 l
 have X0 : 0 ≤ (n0 : Int) := z3
 have a1 : n0 < (q.length : Int) := z3
 obtain ⟨L2, X3, a4, b4, d4, a3, J0, L0, M0, N0, O0, R0⟩ := at_T57 S0.out n0 X0 a1
 obtain rfl : T0 = L2 := (by injection a3)
 (try replace J0 := zX HB J0)
 (try replace L0 := zX HB L0)
 have x0 := zK N0
 have y0 := zK M0
 clear N0 M0
 have O3 := zK R0
 have R3 := zK O0
 clear R0 O0
 replace X0 := eq_true X0
 replace a1 := eq_true a1
 have m5 : wr.cell? ⟨X, 0, none⟩ = some (.slice B0 ((rd_T57 q z).f0).length C0) := zy A 0
 have n5 : wr.cell? ⟨X, 1, none⟩ = some (.slice D0 ((rd_T57 q z).f1).length E0) := zy A 1
 have o5 := zf A.out 0
 have p5 := zf A.out 1
 go_wp2_with (first | (go_at_call 30; (with_reducible refine (spec_l3SameInts.calls k2 _ _ ((rd_T57 q n0).f0) _ _ ((rd_T57 q z).f0) false _ ?side1 ?side2 ?side3 ?side4 I2.out).mono ?_); (case side1 => exact zS x0); (case side2 => exact y0.out); (case side3 => exact zS B); (case side4 => exact E.out); rintro e w' ⟨rfl, ⟨nd, rfl⟩⟩; (try first | exact ⟨rfl, _, World.drewN_drewN _ _ _⟩ | exact ⟨rfl, _, Eq.trans (World.drewN_drewN _ _ _) (congrArg (World.drewN _) (Nat.add_assoc _ _ _))⟩)))
 repeat (go_quiet (first | (go_at_call 30; (with_reducible refine (spec_l3SameInts.calls k2 _ _ ((rd_T57 q n0).f0) _ _ ((rd_T57 q z).f0) false _ ?side1 ?side2 ?side3 ?side4 I2.out).mono ?_); (case side1 => exact zS x0); (case side2 => exact y0.out); (case side3 => exact zS B); (case side4 => exact E.out); rintro e w' ⟨rfl, ⟨nd, rfl⟩⟩; (try first | exact ⟨rfl, _, World.drewN_drewN _ _ _⟩ | exact ⟨rfl, _, Eq.trans (World.drewN_drewN _ _ _) (congrArg (World.drewN _) (Nat.add_assoc _ _ _))⟩))); try go_wp2_with (first | (go_at_call 30; (with_reducible refine (spec_l3SameInts.calls k2 _ _ ((rd_T57 q n0).f0) _ _ ((rd_T57 q z).f0) false _ ?side1 ?side2 ?side3 ?side4 I2.out).mono ?_); (case side1 => exact zS x0); (case side2 => exact y0.out); (case side3 => exact zS B); (case side4 => exact E.out); rintro e w' ⟨rfl, ⟨nd, rfl⟩⟩; (try first | exact ⟨rfl, _, World.drewN_drewN _ _ _⟩ | exact ⟨rfl, _, Eq.trans (World.drewN_drewN _ _ _) (congrArg (World.drewN _) (Nat.add_assoc _ _ _))⟩))))
 go_roundg k2
 case measure => have := S1.out; have := F2.out; omega
 case rel => exact ⟨(wrap64 (n0 + 1)), zR, H', ⟨by have := S1.out; have := F2.out; omega⟩, ⟨zM l⟩, ⟨zM A⟩, ⟨zB⟩⟩
def spec_l3Ints.f (q : List Int) : Option (List Int) := (some (([] : List Int) : List Int)).bind fun l => (if l.length + q.length < 17592186044416 then (some (l ++ q)) else (none))
theorem spec_l3Ints.calls (U) (X) (y : List Int) (r : List Int) (w) (M : Kd.C (Kd.int .i64) w U y.length y) (O : y.length ≤ X) (h : spec_l3Ints.f y = some r) :
 Calls Try.prog 43 #[.slice U y.length X] w fun e w' => ∃ v0_ : Value, e = .returned (v0_) ∧ Kd.R (Kd.int .i64) 3 w' w.heap.size (fun _ => True) v0_ r ∧ Below w.heap.size w w' := by
 have a0 := zK M
 have b0 := zK O
 clear M O
 have HB := zK (Below.refl w.heap.size w)
 have H : ((some (([] : List Int) : List Int)).bind fun l => (if l.length + y.length < 17592186044416 then (some (l ++ y)) else (none))) = some r := h
 clear h
 obtain ⟨l, q⟩ : ∃ y_ : List Int, y_ = (([] : List Int)) := ⟨_, rfl⟩
 replace H : (if l.length + y.length < 17592186044416 then (some (l ++ y)) else (none)) = some r := by first | (rw [q]; with_reducible exact H) | (have z := (Option.bind_some _ _).symm.trans H; rw [q]; with_reducible exact z) | (have z := (Option.bind_some _ _).symm.trans H; with_reducible exact z) | with_reducible exact H | (rw [q]; exact H) | exact H
 have Ny167 := zK q
 clear q
 by_cases J : l.length + y.length < 17592186044416
 rotate_left
 · rw [if_neg J] at H
   exact absurd H (by simp)
 rw [if_pos J] at H
 have LMc2 := zK J
 clear J
 obtain ⟨T, u⟩ : ∃ y_ : List Int, y_ = (l ++ y) := ⟨_, rfl⟩
 replace H : (some T) = some r := by first | (rw [u]; with_reducible exact H) | (have z := (Option.bind_some _ _).symm.trans H; rw [u]; with_reducible exact z) | (have z := (Option.bind_some _ _).symm.trans H; with_reducible exact z) | with_reducible exact H | (rw [u]; exact H) | exact H
 have Ny170 := zK u
 clear u
 obtain rfl := z5 H
 go_enter Try.func43, Try.ntmps43
 go_wp2_with (first | ((with_reducible refine gd 3 rfl ?_); refine Kd.R_lit (Kd.int .i64) _ 3 ?hg (N := 3) ?hd (xs := ([] : List Int)) (inner := []) (ok := fun _ => True) (okp := fun _ => True) ?hr ?hp (fun _ hk => hk) trivial (Below.refl _ _) (Nat.le_refl _) (by simp) ?_; (case hd => rfl); (case hg => rfl); (case hr => first | (go_simp; done) | (go_simp; rfl)); (case hp => exact (Reps.none _ _)); intro v168 w3 A hb hg_ hnew_; clear hg_ hnew_; (first | rw [← Ny167.out] at A | (simp only [Int.reduceToNat] at A; rw [← Ny167.out] at A)); have E := zK (Kd.R_lower A (zz zB)); have I := z8 hb; revert E I; clear HB; intro B HB; clear hb A) | ((with_reducible refine gate_builtin (b := .append) (xs := #[.tmp 3, .tmp 4]) rfl ?_); at_builtin; refine Kd.R_append_rows (Kd.int .i64) (w0 := w) w.heap.size rfl (.tmp 3) (.tmp 4) 47 3 (.int .i64 0) 8 rfl Try.underlying47 info3 rfl (by decide) (by omega) v168 l y _ _ _ (fun _ => True) (fun _ => False) rfl rfl ?aO ?aR (fun _ _ h => h) (fun _ h => h.elim) ?aF ?aB ?aS ?aL ?_; (case aR => exact zS a0); (case aB => exact zB); (case aF => exact (fun _ _ => trivial)); (case aO => exact (zkR B)); (case aS => exact (zz zB)); (case aL => have := LMc2.out; omega); intro v171 w5 ho hb hg hat; rw [← Ny170.out] at ho; have E := zK (hb); have I := zK (ho); revert E I; clear HB B; intro HB L; clear ho hb hg hat))
 go_ret
 exact ⟨_, zE, zkR L, zB⟩
def spec_l21Ends.f (k : Nat) (l : List Int) (q : List Int) : Option (Bool) := if (wrap64 ((l.length : Int) - (q.length : Int))) ≥ 0 then (if 0 ≤ (wrap64 ((l.length : Int) - (q.length : Int))) then (if (wrap64 ((l.length : Int) - (q.length : Int))) ≤ (l.length : Int) then ((spec_l3SameInts.f k (l.drop ((wrap64 ((l.length : Int) - (q.length : Int))) : Int).toNat) q).bind fun u => (some u)) else (none)) else (none)) else (some false)
theorem spec_l21Ends.calls (k) (A0) (I) (l : List Int) (A1) (c1) (q : List Int) (r : Bool) (w) (M : Kd.C (Kd.int .i64) w A0 l.length l) (O : l.length ≤ I) (T : Kd.C (Kd.int .i64) w A1 q.length q) (U : q.length ≤ c1) (h : spec_l21Ends.f k l q = some r) :
 Calls Try.prog 58 #[.slice A0 l.length I, .slice A1 q.length c1] w fun e w' => e = .returned (.bool r) ∧ Drawn0 w w' := by
 have e0 := zK M
 have f0 := zK O
 clear M O
 have g0 := zK T
 have i0 := zK U
 clear T U
 have H : (if (wrap64 ((l.length : Int) - (q.length : Int))) ≥ 0 then (if 0 ≤ (wrap64 ((l.length : Int) - (q.length : Int))) then (if (wrap64 ((l.length : Int) - (q.length : Int))) ≤ (l.length : Int) then ((spec_l3SameInts.f k (l.drop ((wrap64 ((l.length : Int) - (q.length : Int))) : Int).toNat) q).bind fun u => (some u)) else (none)) else (none)) else (some false)) = some r := h
 clear h
 by_cases y : (wrap64 ((l.length : Int) - (q.length : Int))) ≥ 0
 rotate_left
 · rw [if_neg y] at H
   have z := z2 y
   clear y
   obtain rfl := z5 H
   go_enter Try.func58, Try.ntmps58
   go_wp2
   go_ret
   exact ⟨zR, zD⟩
 rw [if_pos y] at H
 have z := z1 y
 clear y
 obtain ⟨ji4, hji4⟩ : ∃ j_ : Int, (wrap64 ((l.length : Int) - (q.length : Int))) = j_ := ⟨_, rfl⟩
 replace H : (if 0 ≤ (ji4) then (if (ji4) ≤ (l.length : Int) then ((spec_l3SameInts.f k (l.drop ((ji4) : Int).toNat) q).bind fun u => (some u)) else (none)) else (none)) = some r := by first | (rw [hji4] at H; exact H) | (simp only [hji4] at H ⊢; exact H)
 (try rw [hji4] at z)
 have hji4w : (IntKind.i64.wrap ((l.length : Int) - (q.length : Int))) = ji4 := (i64_w _).trans hji4
 by_cases A : 0 ≤ (ji4)
 rotate_left
 · rw [if_neg A] at H
   exact absurd H (by simp)
 rw [if_pos A] at H
 have j0 := eq_true A
 have m0 := z1 A
 clear A
 by_cases B : (ji4) ≤ (l.length : Int)
 rotate_left
 · rw [if_neg B] at H
   exact absurd H (by simp)
 rw [if_pos B] at H
 have n0 := eq_true B
 have o0 := z1 B
 clear B
 replace H := z6 H
 obtain ⟨u, X, H⟩ := H
 have A7 := zK X
 clear X
 obtain rfl := z5 H
 obtain ⟨s0, E, _, hsz8, _⟩ := info_parts info3
 obtain ⟨A8, hcut8, hA8, hC8⟩ := print_drop_of (P := Try.prog) (Value.int .i64) 0 47 3 .i64 Try.underlying47 E hsz8 A0 I l (ji4) (z3) (z3) f0.out
 have J := zK (Kd.C_of_reads (h1 := fun _ => rfl) (hA8 _ (Kd.reads_of_C e0.out)))
 have L := zK hC8
 clear hA8 hC8 E hsz8
 go_enter Try.func58, Try.ntmps58
 go_wp2_with (first | (go_at_call 30; refine calls_of_args (args' := #[.slice A8 (l.drop ((ji4) : Int).toNat).length (I - (ji4).toNat), .slice A1 q.length c1]) (by first | (rw [show (l.drop ((ji4) : Int).toNat).length = (l.length - (ji4).toNat) from List.length_drop] <;> rfl) | rfl) ?_; refine (spec_l3SameInts.calls k _ _ (l.drop ((ji4) : Int).toNat) _ _ q u _ (zC J.out) L.out (zC g0.out) i0.out A7.out).mono ?_; rintro e w' ⟨rfl, ⟨nd, rfl⟩⟩))
 go_ret
 exact ⟨by first | rfl | (simp; done) | (simp only [← hji4] <;> (first | rfl | simp)) | (simp [*]; done), zD⟩
end Go.Proofs.Ytdlhmhgpafegpaa.PFnExactWeights
