-- Printed out of the translation by this session's own turned copy of a printer; Lean checks it.
import Derived.Test.YtdlhmhgpafegpaaPFnExactLmOkx0
namespace Go.Proofs.Ytdlhmhgpafegpaa.PFnExactLmOk
open Go.RowKit Go.Proofs.YtdlhmhgpafegpaaW.PrintWords Go.Proofs.YtdlhmhgpafegpaaW.PrintLast Go.Proofs.YtdlhmhgpafegpaaW.PrintMore
attribute [local go_sem] max2_int min2_int max_two min_two max_three min_three max_four min_four
set_option linter.unusedVariables false
set_option linter.unusedSimpArgs false
set_option maxHeartbeats 8000000
set_option maxRecDepth 100000
def laws_eqIntS.l0 : Nat → List Int → List Int → Int → Option (Bool)
 | 0, _, _, _ => none
 | k + 1, l, q, a => if a < (l.length : Int) then (if 0 ≤ a then (if a < (q.length : Int) then (if (rd l a) = (rd q a) then (laws_eqIntS.l0 k l q (wrap64 (a + 1))) else (some false)) else (none)) else (none)) else (some true)
def laws_eqIntS.f (k : Nat) (a : List Int) (l : List Int) : Option (Bool) := if (a.length : Int) = (l.length : Int) then (laws_eqIntS.l0 k a l 0) else (some false)
theorem laws_eqIntS.calls (k) (A0) (c0) (l : List Int) (A1) (c1) (q : List Int) (r : Bool) (w) (d0 : Kd.C (Kd.int .i64) w A0 l.length l) (e0 : l.length ≤ c0) (f0 : Kd.C (Kd.int .i64) w A1 q.length q) (g0 : q.length ≤ c1) (h : laws_eqIntS.f k l q = some r) :
 Calls Try.prog 22 #[.slice A0 l.length c0, .slice A1 q.length c1] w fun e w' => e = .returned (.bool r) ∧ Drawn0 w w' := by
 have i0 := zK d0
 have C0 := zK e0
 clear d0 e0
 have j0 := zK f0
 have D0 := zK g0
 clear f0 g0
 have H : (if (l.length : Int) = (q.length : Int) then (laws_eqIntS.l0 k l q 0) else (some false)) = some r := h
 clear h
 by_cases A : (l.length : Int) = (q.length : Int)
 rotate_left
 · rw [if_neg A] at H
   have M := beq_eq_false_iff_ne.mpr A
   have O := bne_iff_ne.mpr A
   have T : (l.length == q.length) = false := by first | simpa using A | (simp at A ⊢; omega)
   obtain rfl := z5 H
   go_enter Try.func22, Try.ntmps22
   go_wp2
   repeat (go_quiet (fail); try go_wp2)
   go_ret
   exact ⟨zR, zD⟩
 rw [if_pos A] at H
 have M := beq_iff_eq.mpr A
 have O := bne_eq_false_iff_eq.mpr A
 have T : (l.length == q.length) = true := by first | simpa using A | (simp at A ⊢; omega)
 clear A
 have H' := zK H
 clear H
 go_enter Try.func22, Try.ntmps22
 go_wp2
 repeat (go_quiet (fail); try go_wp2)
 go_loopg [5] k (fun kq v5 w' => ∃ (a : Int), v5 = .int .i64 a ∧ Aside0 (laws_eqIntS.l0 kq l q a = some r) ∧ Aside0 (kq ≤ k) ∧ Drawn0 w w')
 case atStart => exact ⟨(0), zR, H', ⟨Nat.le_refl _⟩, zD⟩
 clear H'
 try clear c1
 try clear c2
 try clear p2
 try clear A
 try clear M
 try clear O
 try clear T
 obtain ⟨a, rfl, HA, m0, ⟨m1, rfl⟩⟩ := hrel
 rcases gk with _ | k1
 · exact absurd HA.out (by simp [laws_eqIntS.l0])
 have H := HA.out
 clear HA
 simp only [laws_eqIntS.l0] at H
 by_cases I : a < (l.length : Int)
 rotate_left
 · rw [if_neg I] at H
   have o0 := z2 I
   clear I
   obtain rfl := z5 H
   go_wp2
   repeat (go_quiet (fail); try go_wp2)
   go_ret
   exact ⟨zR, zD⟩
 rw [if_pos I] at H
 have o0 := z1 I
 clear I
 by_cases U : 0 ≤ a
 rotate_left
 · rw [if_neg U] at H
   exact absurd H (by simp)
 rw [if_pos U] at H
 have y0 := z1 U
 clear U
 by_cases X : a < (q.length : Int)
 rotate_left
 · rw [if_neg X] at H
   exact absurd H (by simp)
 rw [if_pos X] at H
 have B0 := z1 X
 clear X
 by_cases B : (rd l a) = (rd q a)
 rotate_left
 · rw [if_neg B] at H
   have p0 := beq_eq_false_iff_ne.mpr B
   have q0 := bne_iff_ne.mpr B
   obtain rfl := z5 H
   have u : 0 ≤ (a : Int) := z3
   have x : a < (l.length : Int) := z3
   obtain ⟨a0, D, J⟩ := Kd.at_int i0.out a u x
   cases D
   replace u := eq_true u
   replace x := eq_true x
   have y : 0 ≤ (a : Int) := z3
   have z : a < (q.length : Int) := z3
   obtain ⟨b0, E, L⟩ := Kd.at_int j0.out a y z
   cases E
   replace y := eq_true y
   replace z := eq_true z
   go_wp2
   repeat (go_quiet (fail); try go_wp2)
   go_ret
   exact ⟨zR, zD⟩
 rw [if_pos B] at H
 have p0 := beq_iff_eq.mpr B
 have q0 := bne_eq_false_iff_eq.mpr B
 clear B
 have H' := zK H
 clear H
 have u : 0 ≤ (a : Int) := z3
 have x : a < (l.length : Int) := z3
 obtain ⟨a0, D, J⟩ := Kd.at_int i0.out a u x
 cases D
 replace u := eq_true u
 replace x := eq_true x
 have y : 0 ≤ (a : Int) := z3
 have z : a < (q.length : Int) := z3
 obtain ⟨b0, E, L⟩ := Kd.at_int j0.out a y z
 cases E
 replace y := eq_true y
 replace z := eq_true z
 go_wp2
 repeat (go_quiet (fail); try go_wp2)
 go_roundg k1
 case measure => have := m0.out; omega
 case rel => exact ⟨(wrap64 (a + 1)), zR, H', ⟨by have := m0.out; omega⟩, zD⟩
def laws_eqRow.f (k : Nat) (a : List Int) (l : List Int) (q : List Int) (u : List Int) : Option (Bool) := (laws_eqIntS.f k a q).bind fun x => (if x = true then ((laws_eqIntS.f k l u).bind fun y => (if y = true then (some true) else (some false))) else (some false))
theorem laws_eqRow.calls (k) (y) (z) (a : List Int) (A) (B) (l : List Int) (D) (E) (q : List Int) (I) (J) (u : List Int) (r : Bool) (w) (U : Kd.C (Kd.int .i64) w y a.length a) (X : a.length ≤ z) (a0 : Kd.C (Kd.int .i64) w A l.length l) (b0 : l.length ≤ B) (c0 : Kd.C (Kd.int .i64) w D q.length q) (d0 : q.length ≤ E) (e0 : Kd.C (Kd.int .i64) w I u.length u) (f0 : u.length ≤ J) (h : laws_eqRow.f k a l q u = some r) :
 Calls Try.prog 57 #[.agg #[.slice y a.length z, .slice A l.length B], .agg #[.slice D q.length E, .slice I u.length J]] w fun e w' => e = .returned (.bool r) ∧ Below w.heap.size w w' := by
 have e1 := Try.underlying57
 have n0 := zK U
 have o0 := zK X
 clear U X
 have p0 := zK a0
 have q0 := zK b0
 clear a0 b0
 have s0 := zK c0
 have t0 := zK d0
 clear c0 d0
 have x0 := zK e0
 have y0 := zK f0
 clear e0 f0
 have HB := zK (Below.refl w.heap.size w)
 have H : ((laws_eqIntS.f k a q).bind fun O => (if O = true then ((laws_eqIntS.f k l u).bind fun T => (if T = true then (some true) else (some false))) else (some false))) = some r := h
 clear h
 replace H := z6 H
 obtain ⟨O, C0, H⟩ := H
 have A3 := zK C0
 clear C0
 rcases zN (O = true) with c4 | c4
 replace c4 := Bool.eq_false_iff.mpr c4
 subst c4
 rw [if_neg (show ¬ (false = true) by decide)] at H
 obtain rfl := z5 H
 rotate_left
 subst c4
 rw [if_pos rfl] at H
 replace H := z6 H
 obtain ⟨T, D0, H⟩ := H
 have A5 := zK D0
 clear D0
 by_cases c6 : T = true
 subst c6
 rw [if_pos rfl] at H
 obtain rfl := z5 H
 rotate_left
 replace c6 := Bool.eq_false_iff.mpr c6
 subst c6
 rw [if_neg (show ¬ (false = true) by decide)] at H
 obtain rfl := z5 H
 all_goals go_enter Try.func57, Try.ntmps57
 all_goals go_wp2_with (first | ((with_reducible refine gd 2 rfl ?_); refine zJ 2 #[.slice y a.length z, .slice A l.length B] 57 ?_; intro T0 hg i1 hbox hb; have i0 := z8 hb; have j0 := zK (hbox); have l0 := z9 hg; have m0 := z9 hg; revert i0 j0 l0 m0; clear HB; intro HB x U0 V0; clear hb hbox hg) | ((with_reducible refine gd 3 rfl ?_); refine zJ 3 #[.slice D q.length E, .slice I u.length J] 57 ?_; intro X0 hg j1 hbox hb; have i0 := z7 x hb; have j0 := z8 hb; have l0 := zK (hbox); have m0 := z9 hg; have O0 := z9 hg; have R0 := zHH hg x; have S0 := zGG hg x; revert i0 j0 l0 m0 O0 R0 S0; clear x HB; intro x HB B0 a1 b1 L M; clear hb hbox hg; have c1 := L.out; have d1 := M.out; obtain ⟨E0, F0, G0, I0⟩ := zc2 x; obtain ⟨J0, L0, M0, N0⟩ := zc2 B0) | ((with_reducible refine gc 22 rfl ?_); refine zF 9 Try.func22 #[.slice y a.length z, .slice D q.length E] rfl zL ?_; refine (laws_eqIntS.calls k _ _ a _ _ q _ _ (zS n0) o0.out (zS s0) t0.out A3.out).mono ?_; rintro e w' ⟨rfl, ⟨nd, rfl⟩⟩; refine ⟨_, rfl, ?_⟩) | ((with_reducible refine gc 22 rfl ?_); refine zF 15 Try.func22 #[.slice A l.length B, .slice I u.length J] rfl zL ?_; refine (laws_eqIntS.calls k _ _ l _ _ u _ _ (zS p0) q0.out (zS x0) y0.out A5.out).mono ?_; rintro e w' ⟨rfl, ⟨nd, rfl⟩⟩; refine ⟨_, rfl, ?_⟩))
 all_goals go_ret
 all_goals exact ⟨zE, zB⟩
def laws_eqRowS.l0 : Nat → List (S57) → List (S57) → Int → Option (Bool)
 | 0, _, _, _ => none
 | k + 1, l, q, a => if a < (l.length : Int) then (if 0 ≤ a then (if a < (q.length : Int) then ((laws_eqRow.f k ((rd_T57 l a).f0) ((rd_T57 l a).f1) ((rd_T57 q a).f0) ((rd_T57 q a).f1)).bind fun u => (if u = true then (laws_eqRowS.l0 k l q (wrap64 (a + 1))) else (some false))) else (none)) else (none)) else (some true)
def laws_eqRowS.f (k : Nat) (a : List (S57)) (l : List (S57)) : Option (Bool) := if (a.length : Int) = (l.length : Int) then (laws_eqRowS.l0 k a l 0) else (some false)
def laws_eqRowS.T6 : Bool × List (List Nat × List Nat) := (true, [([], []), ([], []), ([0, 1], [0, 1]), ([2], [2]), ([], []), ([], []), ([4, 5], [4, 5]), ([6], [6]), ([3, 7], [3, 7]), ([8], [8])])
def laws_eqRowS.B6 : List Nat := [0, 0, 3, 7, 0, 0, 48, 112, 255, 511]
theorem laws_eqRowS.tab6 : rtab .any (opsOf Try.f37 6) = laws_eqRowS.T6 := by kernel_rfl
theorem laws_eqRowS.bits6 : waitsOk laws_eqRowS.T6.2 laws_eqRowS.B6 = true := by kernel_rfl
theorem laws_eqRowS.calls (k) (A0) (c0) (y : List (S57)) (A1) (c1) (z : List (S57)) (r : Bool) (w) (a1 : Kd.C k57 w A0 y.length y) (b1 : y.length ≤ c0) (d1 : Kd.C k57 w A1 z.length z) (e1 : z.length ≤ c1) (h : laws_eqRowS.f k y z = some r) :
 Calls Try.prog 37 #[.slice A0 y.length c0, .slice A1 z.length c1] w fun e w' => e = .returned (.bool r) ∧ Below w.heap.size w w' := by
 have F1 := Try.underlying57
 have g1 := zK a1
 have J1 := zK b1
 clear a1 b1
 have i1 := zK d1
 have L1 := zK e1
 clear d1 e1
 have HB := zK (Below.refl w.heap.size w)
 have H : (if (y.length : Int) = (z.length : Int) then (laws_eqRowS.l0 k y z 0) else (some false)) = some r := h
 clear h
 by_cases c3 : (y.length : Int) = (z.length : Int)
 rotate_left
 · rw [if_neg c3] at H
   have R0 := beq_eq_false_iff_ne.mpr c3
   have S0 := bne_iff_ne.mpr c3
   have T0 : (y.length == z.length) = false := by first | simpa using c3 | (simp at c3 ⊢; omega)
   obtain rfl := z5 H
   go_enter Try.func37, Try.ntmps37
   go_wp2
   go_ret
   exact ⟨zE, zB⟩
 rw [if_pos c3] at H
 have R0 := beq_iff_eq.mpr c3
 have S0 := bne_eq_false_iff_eq.mpr c3
 have T0 : (y.length == z.length) = true := by first | simpa using c3 | (simp at c3 ⊢; omega)
 clear c3
 have H' := zK H
 clear H
 go_enter Try.func37, Try.ntmps37
 go_wp2
 go_loopg [5] k (fun kq v5 w' => ∃ (a : Int), v5 = .int .i64 a ∧ Aside0 (laws_eqRowS.l0 kq y z a = some r) ∧ Aside0 (kq ≤ k) ∧ Aside0 (Below w.heap.size w w'))
 case atStart => exact ⟨(0), zR, H', ⟨Nat.le_refl _⟩, ⟨zB⟩⟩
 clear H'
 try clear c1
 try clear p2
 try clear c3
 try clear R0
 try clear S0
 try clear T0
 obtain ⟨a, rfl, HA, j1, HB⟩ := hrel
 rcases gk with _ | k1
 · exact absurd HA.out (by simp [laws_eqRowS.l0])
 have H := HA.out
 clear HA
 simp only [laws_eqRowS.l0] at H
 by_cases c4 : a < (y.length : Int)
 rotate_left
 · rw [if_neg c4] at H
   have o1 := z2 c4
   clear c4
   obtain rfl := z5 H
   go_wp2
   go_ret
   exact ⟨zE, zB⟩
 rw [if_pos c4] at H
 have o1 := z1 c4
 clear c4
 by_cases c5 : 0 ≤ a
 rotate_left
 · rw [if_neg c5] at H
   exact absurd H (by simp)
 rw [if_pos c5] at H
 have G1 := z1 c5
 clear c5
 by_cases c6 : a < (z.length : Int)
 rotate_left
 · rw [if_neg c6] at H
   exact absurd H (by simp)
 rw [if_pos c6] at H
 have I1 := z1 c6
 clear c6
 replace H := z6 H
 obtain ⟨p1, m1, H⟩ := H
 have A7 := zK m1
 clear m1
 by_cases c8 : p1 = true
 rotate_left
 · replace c8 := Bool.eq_false_iff.mpr c8
   subst c8
   rw [if_neg (show ¬ (false = true) by decide)] at H
   obtain rfl := z5 H
   try go_wp2
   have L0 := zK (ze HB.out)
   revert L0
   clear HB
   intro HB
   have y0 : 0 ≤ (a : Int) := z3
   have B0 : a < (y.length : Int) := z3
   obtain ⟨g0, j0, m0, n0, o0, M0, l, q, A, B, D, E⟩ := at_T57 g1.out a y0 B0
   have I := q
   have J := l
   cases M0
   (try replace l := zX HB l)
   (try replace q := zX HB q)
   have L := zK B
   have E0 := zK A
   clear B A
   have M := zK E
   have F0 := zK D
   clear E D
   replace y0 := eq_true y0
   replace B0 := eq_true B0
   have C0 : 0 ≤ (a : Int) := z3
   have D0 : a < (z.length : Int) := z3
   obtain ⟨i0, p0, q0, t0, x0, N0, u, x, O, T, U, X⟩ := at_T57 i1.out a C0 D0
   have a0 := x
   have b0 := u
   cases N0
   (try replace u := zX HB u)
   (try replace x := zX HB x)
   have d0 := zK T
   have G0 := zK O
   clear T O
   have e0 := zK X
   have I0 := zK U
   clear X U
   replace C0 := eq_true C0
   replace D0 := eq_true D0
   refine start_ (n := 10) (S := fun w' => w'.cell? (g0.add ((a).toNat * 2)) = some (.slice j0 ((rd_T57 y a).f0).length m0) ∧ w'.cell? ⟨(g0.add ((a).toNat * 2)).block, (g0.add ((a).toNat * 2)).off + 1, none⟩ = some (.slice n0 ((rd_T57 y a).f1).length o0) ∧ w'.cell? (i0.add ((a).toNat * 2)) = some (.slice p0 ((rd_T57 z a).f0).length q0) ∧ w'.cell? ⟨(i0.add ((a).toNat * 2)).block, (i0.add ((a).toNat * 2)).off + 1, none⟩ = some (.slice t0 ((rd_T57 z a).f1).length x0)) (ds := []) (bl 10 0) (by kernel_rfl) rfl (by kernel_rfl) ⟨(zX HB J:), (zX HB I:), (zX HB b0:), (zX HB a0:)⟩ (fun hHeld => ?_); refine with_tabW laws_eqRowS.tab6 laws_eqRowS.bits6 (fun HT_ HW_ => ?_)
   generalize wr.drew = M1 at HB L M d0 e0 l q u x hHeld ⊢
   refine zP 0 17 (bl 10 1) HT_ ?_
   refine zP 1 18 (bl 10 3) HT_ ?_
   refine zP 2 19 (bl 10 7) HT_ ?_
   refine zP 4 21 (bl 10 23) HT_ ?_
   refine zP 5 22 (bl 10 55) HT_ ?_
   refine zP 6 23 (bl 10 119) HT_ ?_
   refine zT 3 20 (bl 10 127) rfl rfl HT_ HW_ hHeld (by rintro w' ⟨s0, s1, s2, s3⟩; go_simp; with_reducible rfl) ?_
   refine zT 7 24 (bl 10 255) rfl rfl HT_ HW_ hHeld (by rintro w' ⟨s0, s1, s2, s3⟩; go_simp; with_reducible rfl) ?_
   refine one_ (i := 8) (N := some 25) (bl 10 511) rfl rfl (one_of HT_.out (by kernel_rfl)) (by decide) (fun K hK => ?_)
   refine goes_ Try.func57 (by kernel_rfl) rfl #[.agg #[.slice j0 ((rd_T57 y a).f0).length m0, .slice n0 ((rd_T57 y a).f1).length o0], .agg #[.slice p0 ((rd_T57 z a).f0).length q0, .slice t0 ((rd_T57 z a).f1).length x0]] (by rfl) rfl rfl zL ?_
   refine (laws_eqRow.calls k1 _ _ ((rd_T57 y a).f0) _ _ ((rd_T57 y a).f1) _ _ ((rd_T57 z a).f0) _ _ ((rd_T57 z a).f1) false _ (zS L) E0.out (zS M) F0.out (zS d0) G0.out (zS e0) I0.out A7.out).mono ?_
   rintro e N1 ⟨rfl, hb⟩
   refine ⟨_, rfl, ?_⟩
   have L0 := z8 hb
   revert L0
   clear HB
   intro HB
   (try clear hb)
   (try clear hb2)
   (try clear hk)
   (try clear hi)
   refine hK.out _ _ ⟨(zX HB J:), (zX HB I:), (zX HB b0:), (zX HB a0:)⟩ (fun hHeld => ?_)
   clear hK K
   refine zU 25 ?_
   refine zP 9 26 (bl 10 1023) HT_ ?_
   refine done_ (done_of HT_.out (by kernel_rfl)) ?_
   try go_wp2
   go_ret
   exact ⟨zE, zB⟩
 subst c8
 rw [if_pos rfl] at H
 have H' := zK H
 clear H
 try go_wp2
 have L0 := zK (ze HB.out)
 revert L0
 clear HB
 intro HB
 have y0 : 0 ≤ (a : Int) := z3
 have B0 : a < (y.length : Int) := z3
 obtain ⟨g0, j0, m0, n0, o0, M0, l, q, A, B, D, E⟩ := at_T57 g1.out a y0 B0
 have I := q
 have J := l
 cases M0
 (try replace l := zX HB l)
 (try replace q := zX HB q)
 have L := zK B
 have E0 := zK A
 clear B A
 have M := zK E
 have F0 := zK D
 clear E D
 replace y0 := eq_true y0
 replace B0 := eq_true B0
 have C0 : 0 ≤ (a : Int) := z3
 have D0 : a < (z.length : Int) := z3
 obtain ⟨i0, p0, q0, t0, x0, N0, u, x, O, T, U, X⟩ := at_T57 i1.out a C0 D0
 have a0 := x
 have b0 := u
 cases N0
 (try replace u := zX HB u)
 (try replace x := zX HB x)
 have d0 := zK T
 have G0 := zK O
 clear T O
 have e0 := zK X
 have I0 := zK U
 clear X U
 replace C0 := eq_true C0
 replace D0 := eq_true D0
 refine start_ (n := 10) (S := fun w' => w'.cell? (g0.add ((a).toNat * 2)) = some (.slice j0 ((rd_T57 y a).f0).length m0) ∧ w'.cell? ⟨(g0.add ((a).toNat * 2)).block, (g0.add ((a).toNat * 2)).off + 1, none⟩ = some (.slice n0 ((rd_T57 y a).f1).length o0) ∧ w'.cell? (i0.add ((a).toNat * 2)) = some (.slice p0 ((rd_T57 z a).f0).length q0) ∧ w'.cell? ⟨(i0.add ((a).toNat * 2)).block, (i0.add ((a).toNat * 2)).off + 1, none⟩ = some (.slice t0 ((rd_T57 z a).f1).length x0)) (ds := []) (bl 10 0) (by kernel_rfl) rfl (by kernel_rfl) ⟨(zX HB J:), (zX HB I:), (zX HB b0:), (zX HB a0:)⟩ (fun hHeld => ?_); refine with_tabW laws_eqRowS.tab6 laws_eqRowS.bits6 (fun HT_ HW_ => ?_)
 generalize wr.drew = w9 at HB L M d0 e0 l q u x hHeld ⊢
 refine zP 0 17 (bl 10 1) HT_ ?_
 refine zP 1 18 (bl 10 3) HT_ ?_
 refine zP 2 19 (bl 10 7) HT_ ?_
 refine zP 4 21 (bl 10 23) HT_ ?_
 refine zP 5 22 (bl 10 55) HT_ ?_
 refine zP 6 23 (bl 10 119) HT_ ?_
 refine zT 3 20 (bl 10 127) rfl rfl HT_ HW_ hHeld (by rintro w' ⟨s0, s1, s2, s3⟩; go_simp; with_reducible rfl) ?_
 refine zT 7 24 (bl 10 255) rfl rfl HT_ HW_ hHeld (by rintro w' ⟨s0, s1, s2, s3⟩; go_simp; with_reducible rfl) ?_
 refine one_ (i := 8) (N := some 25) (bl 10 511) rfl rfl (one_of HT_.out (by kernel_rfl)) (by decide) (fun K hK => ?_)
 refine goes_ Try.func57 (by kernel_rfl) rfl #[.agg #[.slice j0 ((rd_T57 y a).f0).length m0, .slice n0 ((rd_T57 y a).f1).length o0], .agg #[.slice p0 ((rd_T57 z a).f0).length q0, .slice t0 ((rd_T57 z a).f1).length x0]] (by rfl) rfl rfl zL ?_
 refine (laws_eqRow.calls k1 _ _ ((rd_T57 y a).f0) _ _ ((rd_T57 y a).f1) _ _ ((rd_T57 z a).f0) _ _ ((rd_T57 z a).f1) true _ (zS L) E0.out (zS M) F0.out (zS d0) G0.out (zS e0) I0.out A7.out).mono ?_
 rintro e O1 ⟨rfl, hb⟩
 refine ⟨_, rfl, ?_⟩
 have L0 := z8 hb
 revert L0
 clear HB
 intro HB
 (try clear hb)
 (try clear hb2)
 (try clear hk)
 (try clear hi)
 refine hK.out _ _ ⟨(zX HB J:), (zX HB I:), (zX HB b0:), (zX HB a0:)⟩ (fun hHeld => ?_)
 clear hK K
 refine zU 25 ?_
 refine zP 9 26 (bl 10 1023) HT_ ?_
 refine done_ (done_of HT_.out (by kernel_rfl)) ?_
 try go_wp2
 go_roundg k1
 case measure => have := j1.out; omega
 case rel => exact ⟨(wrap64 (a + 1)), zR, H', ⟨by have := j1.out; omega⟩, ⟨zB⟩⟩
def laws_eqLm.f (k : Nat) (a : Int) (l : List (S57)) (q : Int) (u : List (S57)) : Option (Bool) := if a = q then ((laws_eqRowS.f k l u).bind fun x => (if x = true then (some true) else (some false))) else (some false)
theorem laws_eqLm.calls (k) (x) (z) (A) (l : List (S57)) (y) (B) (D) (q : List (S57)) (r : Bool) (w) (U : Kd.C k57 w z l.length l) (X : l.length ≤ A) (a0 : Kd.C k57 w B q.length q) (b0 : q.length ≤ D) (h : laws_eqLm.f k x l y q = some r) :
 Calls Try.prog 11 #[.agg #[.int .i64 x, .slice z l.length A], .agg #[.int .i64 y, .slice B q.length D]] w fun e w' => e = .returned (.bool r) ∧ Below w.heap.size w w' := by
 have N0 := Try.underlying29
 have d0 := zK U
 have e0 := zK X
 clear U X
 have f0 := zK a0
 have g0 := zK b0
 clear a0 b0
 have HB := zK (Below.refl w.heap.size w)
 have H : (if x = y then ((laws_eqRowS.f k l q).bind fun T => (if T = true then (some true) else (some false))) else (some false)) = some r := h
 clear h
 rcases zN (x = y) with E | E
 rw [if_neg E] at H
 have l0 := beq_eq_false_iff_ne.mpr E
 have m0 := bne_iff_ne.mpr E
 obtain rfl := z5 H
 rotate_left
 rw [if_pos E] at H
 have l0 := beq_iff_eq.mpr E
 have m0 := bne_eq_false_iff_eq.mpr E
 clear E
 replace H := z6 H
 obtain ⟨T, j0, H⟩ := H
 have A4 := zK j0
 clear j0
 by_cases c5 : T = true
 subst c5
 rw [if_pos rfl] at H
 obtain rfl := z5 H
 rotate_left
 replace c5 := Bool.eq_false_iff.mpr c5
 subst c5
 rw [if_neg (show ¬ (false = true) by decide)] at H
 obtain rfl := z5 H
 all_goals go_enter Try.func11, Try.ntmps11
 all_goals go_wp2_with (first | ((with_reducible refine gd 2 rfl ?_); refine zJ 2 #[.int .i64 x, .slice z l.length A] 29 ?_; intro D0 hg R0 hbox hb; have I := z8 hb; have J := zK (hbox); have L := z9 hg; have c0 := z9 hg; revert I J L c0; clear HB; intro HB a E0 F0; clear hb hbox hg) | ((with_reducible refine gd 3 rfl ?_); refine zJ 3 #[.int .i64 y, .slice B q.length D] 29 ?_; intro G0 hg S0 hbox hb; have I := z7 a hb; have J := z8 hb; have L := zK (hbox); have c0 := z9 hg; have A0 := z9 hg; have B0 := zHH hg a; have C0 := zGG hg a; revert I J L c0 A0 B0 C0; clear a HB; intro a HB u I0 J0 M O; clear hb hbox hg; have L0 := M.out; have M0 := O.out; obtain ⟨n0, o0, p0, q0⟩ := zc2 a; obtain ⟨s0, t0, x0, y0⟩ := zc2 u) | ((with_reducible refine gc 37 rfl ?_); refine zF 14 Try.func37 #[.slice z l.length A, .slice B q.length D] rfl zL ?_; refine (laws_eqRowS.calls k _ _ l _ _ q _ _ (zS d0) e0.out (zS f0) g0.out A4.out).mono ?_; rintro e T0 ⟨rfl, hb⟩; refine ⟨_, rfl, ?_⟩; have I := z7 a hb; have J := z7 u hb; have L := z8 hb; revert I J L; clear a u HB; intro a u HB))
 all_goals go_ret
 all_goals exact ⟨zE, zB⟩
end Go.Proofs.Ytdlhmhgpafegpaa.PFnExactLmOk
