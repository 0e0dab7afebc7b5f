-- Printed out of the translation by this session's own turned copy of a printer; Lean checks it.
import Derived.Test.YtdlhmhgpafegpaaPFnExactWeightsx0
import Derived.Test.YtdlhmhgpafegpaaPFnExactWeightsx1
namespace Go.Proofs.Ytdlhmhgpafegpaa.PFnExactWeights
open Go.RowKit Go.Proofs.YtdlhmhgpafegpaaW.PrintWords Go.Proofs.YtdlhmhgpafegpaaW.PrintLast Go.Proofs.YtdlhmhgpafegpaaW.PrintMore
attribute [local go_sem] max2_int min2_int max_two min_two max_three min_three max_four min_four
set_option linter.unusedVariables false
set_option linter.unusedSimpArgs false
set_option maxHeartbeats 8000000
set_option maxRecDepth 100000
def laws_eqRowS.l0 : Nat → List (S57) → List (S57) → Int → Option (Bool)
 | 0, _, _, _ => none
 | k + 1, q, u, l => if l < (q.length : Int) then (if 0 ≤ l then (if l < (u.length : Int) then ((laws_eqRow.f k ((rd_T57 q l).f0) ((rd_T57 q l).f1) ((rd_T57 u l).f0) ((rd_T57 u l).f1)).bind fun y => (if y = true then (laws_eqRowS.l0 k q u (wrap64 (l + 1))) else (some false))) else (none)) else (none)) else (some true)
def laws_eqRowS.f (k : Nat) (l : List (S57)) (q : List (S57)) : Option (Bool) := if (l.length : Int) = (q.length : Int) then (laws_eqRowS.l0 k l q 0) else (some false)
def laws_eqRowS.T6 : Bool × List (List Nat × List Nat) := (true, [([], []), ([], []), ([0, 1], [0, 1]), ([2], [2]), ([], []), ([], []), ([4, 5], [4, 5]), ([6], [6]), ([3, 7], [3, 7]), ([8], [8])])
def laws_eqRowS.B6 : List Nat := [0, 0, 3, 7, 0, 0, 48, 112, 255, 511]
theorem laws_eqRowS.tab6 : rtab .any (opsOf Try.f37 6) = laws_eqRowS.T6 := by kernel_rfl
theorem laws_eqRowS.bits6 : waitsOk laws_eqRowS.T6.2 laws_eqRowS.B6 = true := by kernel_rfl
theorem laws_eqRowS.calls (k) (A0) (c0) (A : List (S57)) (A1) (c1) (B : List (S57)) (r : Bool) (w) (e1 : Kd.C k57 w A0 A.length A) (g1 : A.length ≤ c0) (i1 : Kd.C k57 w A1 B.length B) (j1 : B.length ≤ c1) (h : laws_eqRowS.f k A B = some r) :
 Calls Try.prog 37 #[.slice A0 A.length c0, .slice A1 B.length c1] w fun e w' => e = .returned (.bool r) ∧ Below w.heap.size w w' := by
 have J1 := Try.underlying57
 have m1 := zK e1
 have N1 := zK g1
 clear e1 g1
 have n1 := zK i1
 have O1 := zK j1
 clear i1 j1
 have HB := zK (Below.refl w.heap.size w)
 have H : (if (A.length : Int) = (B.length : Int) then (laws_eqRowS.l0 k A B 0) else (some false)) = some r := h
 clear h
 by_cases c3 : (A.length : Int) = (B.length : Int)
 rotate_left
 · rw [if_neg c3] at H
   have U0 := beq_eq_false_iff_ne.mpr c3
   have V0 := bne_iff_ne.mpr c3
   have X0 : (A.length == B.length) = false := by first | simpa using c3 | (simp at c3 ⊢; omega)
   obtain rfl := z5 H
   go_enter Try.func37, Try.ntmps37
   go_wp2
   go_ret
   exact ⟨zE, zB⟩
 rw [if_pos c3] at H
 have U0 := beq_iff_eq.mpr c3
 have V0 := bne_eq_false_iff_eq.mpr c3
 have X0 : (A.length == B.length) = true := by first | simpa using c3 | (simp at c3 ⊢; omega)
 clear c3
 have H' := zK H
 clear H
 go_enter Try.func37, Try.ntmps37
 go_wp2
 go_loopg [5] k (fun kq v5 w' => ∃ (l : Int), v5 = .int .i64 l ∧ Aside0 (laws_eqRowS.l0 kq A B l = some r) ∧ Aside0 (kq ≤ k) ∧ Aside0 (Below w.heap.size w w'))
 case atStart => exact ⟨(0), zR, H', ⟨Nat.le_refl _⟩, ⟨zB⟩⟩
 clear H'
 try clear c1
 try clear p2
 try clear c3
 try clear U0
 try clear V0
 try clear X0
 obtain ⟨l, rfl, HA, o1, HB⟩ := hrel
 rcases gk with _ | k1
 · exact absurd HA.out (by simp [laws_eqRowS.l0])
 have H := HA.out
 clear HA
 simp only [laws_eqRowS.l0] at H
 by_cases c4 : l < (A.length : Int)
 rotate_left
 · rw [if_neg c4] at H
   have t1 := z2 c4
   clear c4
   obtain rfl := z5 H
   go_wp2
   go_ret
   exact ⟨zE, zB⟩
 rw [if_pos c4] at H
 have t1 := z1 c4
 clear c4
 by_cases c5 : 0 ≤ l
 rotate_left
 · rw [if_neg c5] at H
   exact absurd H (by simp)
 rw [if_pos c5] at H
 have L1 := z1 c5
 clear c5
 by_cases c6 : l < (B.length : Int)
 rotate_left
 · rw [if_neg c6] at H
   exact absurd H (by simp)
 rw [if_pos c6] at H
 have M1 := z1 c6
 clear c6
 replace H := z6 H
 obtain ⟨x1, p1, H⟩ := H
 have A7 := zK p1
 clear p1
 by_cases c8 : x1 = true
 rotate_left
 · replace c8 := Bool.eq_false_iff.mpr c8
   subst c8
   rw [if_neg (show ¬ (false = true) by decide)] at H
   obtain rfl := z5 H
   try go_wp2
   have O0 := zK (ze HB.out)
   revert O0
   clear HB
   intro HB
   have D0 : 0 ≤ (l : Int) := z3
   have E0 : l < (A.length : Int) := z3
   obtain ⟨m0, o0, p0, q0, t0, R0, q, u, E, I, J, L⟩ := at_T57 m1.out l D0 E0
   have M := u
   have O := q
   cases R0
   (try replace q := zX HB q)
   (try replace u := zX HB u)
   have T := zK I
   have I0 := zK E
   clear I E
   have U := zK L
   have J0 := zK J
   clear L J
   replace D0 := eq_true D0
   replace E0 := eq_true E0
   have F0 : 0 ≤ (l : Int) := z3
   have G0 : l < (B.length : Int) := z3
   obtain ⟨n0, x0, y0, B0, C0, S0, y, z, X, a0, b0, d0⟩ := at_T57 n1.out l F0 G0
   have e0 := z
   have g0 := y
   cases S0
   (try replace y := zX HB y)
   (try replace z := zX HB z)
   have i0 := zK a0
   have L0 := zK X
   clear a0 X
   have j0 := zK d0
   have M0 := zK b0
   clear d0 b0
   replace F0 := eq_true F0
   replace G0 := eq_true G0
   refine start_ (n := 10) (S := fun w' => w'.cell? (m0.add ((l).toNat * 2)) = some (.slice o0 ((rd_T57 A l).f0).length p0) ∧ w'.cell? ⟨(m0.add ((l).toNat * 2)).block, (m0.add ((l).toNat * 2)).off + 1, none⟩ = some (.slice q0 ((rd_T57 A l).f1).length t0) ∧ w'.cell? (n0.add ((l).toNat * 2)) = some (.slice x0 ((rd_T57 B l).f0).length y0) ∧ w'.cell? ⟨(n0.add ((l).toNat * 2)).block, (n0.add ((l).toNat * 2)).off + 1, none⟩ = some (.slice B0 ((rd_T57 B l).f1).length C0)) (ds := []) (bl 10 0) (by kernel_rfl) rfl (by kernel_rfl) ⟨(zX HB O:), (zX HB M:), (zX HB g0:), (zX HB e0:)⟩ (fun hHeld => ?_); refine with_tabW laws_eqRowS.tab6 laws_eqRowS.bits6 (fun HT_ HW_ => ?_)
   generalize wr.drew = R1 at HB T U i0 j0 q u y z hHeld ⊢
   refine zP 0 17 (bl 10 1) HT_ ?_
   refine zP 1 18 (bl 10 3) HT_ ?_
   refine zP 2 19 (bl 10 7) HT_ ?_
   refine zP 4 21 (bl 10 23) HT_ ?_
   refine zP 5 22 (bl 10 55) HT_ ?_
   refine zP 6 23 (bl 10 119) HT_ ?_
   refine zT 3 20 (bl 10 127) rfl rfl HT_ HW_ hHeld (by rintro w' ⟨s0, s1, s2, s3⟩; go_simp; with_reducible rfl) ?_
   refine zT 7 24 (bl 10 255) rfl rfl HT_ HW_ hHeld (by rintro w' ⟨s0, s1, s2, s3⟩; go_simp; with_reducible rfl) ?_
   refine one_ (i := 8) (N := some 25) (bl 10 511) rfl rfl (one_of HT_.out (by kernel_rfl)) (by decide) (fun K hK => ?_)
   refine goes_ Try.func57 (by kernel_rfl) rfl #[.agg #[.slice o0 ((rd_T57 A l).f0).length p0, .slice q0 ((rd_T57 A l).f1).length t0], .agg #[.slice x0 ((rd_T57 B l).f0).length y0, .slice B0 ((rd_T57 B l).f1).length C0]] (by rfl) rfl rfl zL ?_
   refine (laws_eqRow.calls k1 _ _ ((rd_T57 A l).f0) _ _ ((rd_T57 A l).f1) _ _ ((rd_T57 B l).f0) _ _ ((rd_T57 B l).f1) false _ (zS T) I0.out (zS U) J0.out (zS i0) L0.out (zS j0) M0.out A7.out).mono ?_
   rintro e S1 ⟨rfl, hb⟩
   refine ⟨_, rfl, ?_⟩
   have O0 := z8 hb
   revert O0
   clear HB
   intro HB
   (try clear hb)
   (try clear hb2)
   (try clear hk)
   (try clear hi)
   refine hK.out _ _ ⟨(zX HB O:), (zX HB M:), (zX HB g0:), (zX HB e0:)⟩ (fun hHeld => ?_)
   clear hK K
   refine zU 25 ?_
   refine zP 9 26 (bl 10 1023) HT_ ?_
   refine done_ (done_of HT_.out (by kernel_rfl)) ?_
   try go_wp2
   go_ret
   exact ⟨zE, zB⟩
 subst c8
 rw [if_pos rfl] at H
 have H' := zK H
 clear H
 try go_wp2
 have O0 := zK (ze HB.out)
 revert O0
 clear HB
 intro HB
 have D0 : 0 ≤ (l : Int) := z3
 have E0 : l < (A.length : Int) := z3
 obtain ⟨m0, o0, p0, q0, t0, R0, q, u, E, I, J, L⟩ := at_T57 m1.out l D0 E0
 have M := u
 have O := q
 cases R0
 (try replace q := zX HB q)
 (try replace u := zX HB u)
 have T := zK I
 have I0 := zK E
 clear I E
 have U := zK L
 have J0 := zK J
 clear L J
 replace D0 := eq_true D0
 replace E0 := eq_true E0
 have F0 : 0 ≤ (l : Int) := z3
 have G0 : l < (B.length : Int) := z3
 obtain ⟨n0, x0, y0, B0, C0, S0, y, z, X, a0, b0, d0⟩ := at_T57 n1.out l F0 G0
 have e0 := z
 have g0 := y
 cases S0
 (try replace y := zX HB y)
 (try replace z := zX HB z)
 have i0 := zK a0
 have L0 := zK X
 clear a0 X
 have j0 := zK d0
 have M0 := zK b0
 clear d0 b0
 replace F0 := eq_true F0
 replace G0 := eq_true G0
 refine start_ (n := 10) (S := fun w' => w'.cell? (m0.add ((l).toNat * 2)) = some (.slice o0 ((rd_T57 A l).f0).length p0) ∧ w'.cell? ⟨(m0.add ((l).toNat * 2)).block, (m0.add ((l).toNat * 2)).off + 1, none⟩ = some (.slice q0 ((rd_T57 A l).f1).length t0) ∧ w'.cell? (n0.add ((l).toNat * 2)) = some (.slice x0 ((rd_T57 B l).f0).length y0) ∧ w'.cell? ⟨(n0.add ((l).toNat * 2)).block, (n0.add ((l).toNat * 2)).off + 1, none⟩ = some (.slice B0 ((rd_T57 B l).f1).length C0)) (ds := []) (bl 10 0) (by kernel_rfl) rfl (by kernel_rfl) ⟨(zX HB O:), (zX HB M:), (zX HB g0:), (zX HB e0:)⟩ (fun hHeld => ?_); refine with_tabW laws_eqRowS.tab6 laws_eqRowS.bits6 (fun HT_ HW_ => ?_)
 generalize wr.drew = w9 at HB T U i0 j0 q u y z hHeld ⊢
 refine zP 0 17 (bl 10 1) HT_ ?_
 refine zP 1 18 (bl 10 3) HT_ ?_
 refine zP 2 19 (bl 10 7) HT_ ?_
 refine zP 4 21 (bl 10 23) HT_ ?_
 refine zP 5 22 (bl 10 55) HT_ ?_
 refine zP 6 23 (bl 10 119) HT_ ?_
 refine zT 3 20 (bl 10 127) rfl rfl HT_ HW_ hHeld (by rintro w' ⟨s0, s1, s2, s3⟩; go_simp; with_reducible rfl) ?_
 refine zT 7 24 (bl 10 255) rfl rfl HT_ HW_ hHeld (by rintro w' ⟨s0, s1, s2, s3⟩; go_simp; with_reducible rfl) ?_
 refine one_ (i := 8) (N := some 25) (bl 10 511) rfl rfl (one_of HT_.out (by kernel_rfl)) (by decide) (fun K hK => ?_)
 refine goes_ Try.func57 (by kernel_rfl) rfl #[.agg #[.slice o0 ((rd_T57 A l).f0).length p0, .slice q0 ((rd_T57 A l).f1).length t0], .agg #[.slice x0 ((rd_T57 B l).f0).length y0, .slice B0 ((rd_T57 B l).f1).length C0]] (by rfl) rfl rfl zL ?_
 refine (laws_eqRow.calls k1 _ _ ((rd_T57 A l).f0) _ _ ((rd_T57 A l).f1) _ _ ((rd_T57 B l).f0) _ _ ((rd_T57 B l).f1) true _ (zS T) I0.out (zS U) J0.out (zS i0) L0.out (zS j0) M0.out A7.out).mono ?_
 rintro e T1 ⟨rfl, hb⟩
 refine ⟨_, rfl, ?_⟩
 have O0 := z8 hb
 revert O0
 clear HB
 intro HB
 (try clear hb)
 (try clear hb2)
 (try clear hk)
 (try clear hi)
 refine hK.out _ _ ⟨(zX HB O:), (zX HB M:), (zX HB g0:), (zX HB e0:)⟩ (fun hHeld => ?_)
 clear hK K
 refine zU 25 ?_
 refine zP 9 26 (bl 10 1023) HT_ ?_
 refine done_ (done_of HT_.out (by kernel_rfl)) ?_
 try go_wp2
 go_roundg k1
 case measure => have := o1.out; omega
 case rel => exact ⟨(wrap64 (l + 1)), zR, H', ⟨by have := o1.out; omega⟩, ⟨zB⟩⟩
def laws_eqLm.f (k : Nat) (l : Int) (q : List (S57)) (u : Int) (y : List (S57)) : Option (Bool) := if l = u then ((laws_eqRowS.f k q y).bind fun z => (if z = true then (some true) else (some false))) else (some false)
theorem laws_eqLm.calls (k) (z) (B) (E) (q : List (S57)) (A) (I) (J) (u : List (S57)) (r : Bool) (w) (b0 : Kd.C k57 w B q.length q) (c0 : q.length ≤ E) (d0 : Kd.C k57 w I u.length u) (e0 : u.length ≤ J) (h : laws_eqLm.f k z q A u = some r) :
 Calls Try.prog 11 #[.agg #[.int .i64 z, .slice B q.length E], .agg #[.int .i64 A, .slice I u.length J]] w fun e w' => e = .returned (.bool r) ∧ Below w.heap.size w w' := by
 have S0 := Try.underlying29
 have g0 := zK b0
 have i0 := zK c0
 clear b0 c0
 have j0 := zK d0
 have l0 := zK e0
 clear d0 e0
 have HB := zK (Below.refl w.heap.size w)
 have H : (if z = A then ((laws_eqRowS.f k q u).bind fun a0 => (if a0 = true then (some true) else (some false))) else (some false)) = some r := h
 clear h
 rcases zN (z = A) with L | L
 rw [if_neg L] at H
 have o0 := beq_eq_false_iff_ne.mpr L
 have p0 := bne_iff_ne.mpr L
 obtain rfl := z5 H
 rotate_left
 rw [if_pos L] at H
 have o0 := beq_iff_eq.mpr L
 have p0 := bne_eq_false_iff_eq.mpr L
 clear L
 replace H := z6 H
 obtain ⟨a0, n0, H⟩ := H
 have A4 := zK n0
 clear n0
 by_cases c5 : a0 = true
 subst c5
 rw [if_pos rfl] at H
 obtain rfl := z5 H
 rotate_left
 replace c5 := Bool.eq_false_iff.mpr c5
 subst c5
 rw [if_neg (show ¬ (false = true) by decide)] at H
 obtain rfl := z5 H
 all_goals go_enter Try.func11, Try.ntmps11
 all_goals go_wp2_with (first | ((with_reducible refine gd 2 rfl ?_); refine zJ 2 #[.int .i64 z, .slice B q.length E] 29 ?_; intro G0 hg U0 hbox hb; have M := z8 hb; have O := zK (hbox); have T := z9 hg; have f0 := z9 hg; revert M O T f0; clear HB; intro HB l I0 J0; clear hb hbox hg) | ((with_reducible refine gd 3 rfl ?_); refine zJ 3 #[.int .i64 A, .slice I u.length J] 29 ?_; intro L0 hg V0 hbox hb; have M := z7 l hb; have O := z8 hb; have T := zK (hbox); have f0 := z9 hg; have D0 := z9 hg; have E0 := zHH hg l; have F0 := zGG hg l; revert M O T f0 D0 E0 F0; clear l HB; intro l HB y M0 N0 U X; clear hb hbox hg; have O0 := U.out; have R0 := X.out; obtain ⟨q0, s0, t0, x0⟩ := zc2 l; obtain ⟨y0, A0, B0, C0⟩ := zc2 y) | ((with_reducible refine gc 37 rfl ?_); refine zF 14 Try.func37 #[.slice B q.length E, .slice I u.length J] rfl zL ?_; refine (laws_eqRowS.calls k _ _ q _ _ u _ _ (zS g0) i0.out (zS j0) l0.out A4.out).mono ?_; rintro e X0 ⟨rfl, hb⟩; refine ⟨_, rfl, ?_⟩; have M := z7 l hb; have O := z7 y hb; have T := z8 hb; revert M O T; clear l y HB; intro l y HB))
 all_goals go_ret
 all_goals exact ⟨zE, zB⟩
def spec_l5In.f (l : Int) (q : Int) (u : Int) : Option (Bool) := if l ≥ q then (some (decide (l ≤ u))) else (some false)
theorem spec_l5In.calls (q) (u) (y) (r : Bool) (w) (h : spec_l5In.f q u y = some r) :
 Calls Try.prog 27 #[.int .i64 q, .int .i64 u, .int .i64 y] w fun e w' => e = .returned (.bool r) ∧ Drawn0 w w' := by
 have H : (if q ≥ u then (some (decide (q ≤ y))) else (some false)) = some r := h
 clear h
 by_cases l : q ≥ u
 · rw [if_pos l] at H
   have z := z1 l
   clear l
   obtain rfl := z5 H
   go_enter Try.func27, Try.ntmps27
   go_wp2
   go_ret
   exact ⟨zR, zD⟩
 rw [if_neg l] at H
 have z := z2 l
 clear l
 obtain rfl := z5 H
 go_enter Try.func27, Try.ntmps27
 go_wp2
 go_ret
 exact ⟨zR, zD⟩
def spec_l21Tokens.l0 : Nat → List Int → Int → Int → Option (Bool)
 | 0, _, _, _ => none
 | k + 1, q, y, l => if l < (q.length : Int) then (if 0 ≤ l then ((spec_l5In.f (rd q l) 0 (wrap64 (y - 1))).bind fun u => (if u = true then (spec_l21Tokens.l0 k q y (wrap64 (l + 1))) else (some false))) else (none)) else (some true)
def spec_l21Tokens.f (k : Nat) (l : List Int) (q : Int) : Option (Bool) := spec_l21Tokens.l0 k l q 0
theorem spec_l21Tokens.calls (k) (A0) (c0) (y : List Int) (z) (r : Bool) (w) (M : Kd.C (Kd.int .i64) w A0 y.length y) (O : y.length ≤ c0) (h : spec_l21Tokens.f k y z = some r) :
 Calls Try.prog 28 #[.slice A0 y.length c0, .int .i64 z] w fun e w' => e = .returned (.bool r) ∧ Drawn0 w w' := by
 have T := zK M
 have i0 := zK O
 clear M O
 have H : (spec_l21Tokens.l0 k y z 0) = some r := h
 clear h
 have H' := zK H
 clear H
 go_enter Try.func28, Try.ntmps28
 go_wp2
 go_loopg [5] k (fun kq v5 w' => ∃ (l : Int), v5 = .int .i64 l ∧ Aside0 (spec_l21Tokens.l0 kq y z l = some r) ∧ Aside0 (kq ≤ k) ∧ Drawn0 w w')
 case atStart => exact ⟨(0), zR, H', ⟨Nat.le_refl _⟩, zD⟩
 clear H'
 try clear c2
 try clear p2
 obtain ⟨l, rfl, HA, U, ⟨m1, rfl⟩⟩ := hrel
 rcases gk with _ | k1
 · exact absurd HA.out (by simp [spec_l21Tokens.l0])
 have H := HA.out
 clear HA
 simp only [spec_l21Tokens.l0] at H
 by_cases B : l < (y.length : Int)
 rotate_left
 · rw [if_neg B] at H
   have a0 := z2 B
   clear B
   obtain rfl := z5 H
   go_wp2
   go_ret
   exact ⟨zR, zD⟩
 rw [if_pos B] at H
 have a0 := z1 B
 clear B
 by_cases I : 0 ≤ l
 rotate_left
 · rw [if_neg I] at H
   exact absurd H (by simp)
 rw [if_pos I] at H
 have g0 := z1 I
 clear I
 replace H := z6 H
 obtain ⟨b0, X, H⟩ := H
 have A5 := zK X
 clear X
 by_cases J : b0 = true
 rotate_left
 · replace J := Bool.eq_false_iff.mpr J
   subst J
   rw [if_neg (show ¬ (false = true) by decide)] at H
   obtain rfl := z5 H
   have q : 0 ≤ (l : Int) := z3
   have u : l < (y.length : Int) := z3
   obtain ⟨L, A, E⟩ := Kd.at_int T.out l q u
   cases A
   replace q := eq_true q
   replace u := eq_true u
   go_wp2_with (first | ((with_reducible refine gc 27 rfl ?_); refine zF 18 Try.func27 #[.int .i64 (rd y l), .int .i64 0, .int .i64 (wrap64 (z - 1))] rfl zL ?_; (with_reducible refine (spec_l5In.calls (rd y l) 0 (wrap64 (z - 1)) false _ A5.out).mono ?_); rintro e w' ⟨rfl, ⟨nd, rfl⟩⟩; refine ⟨_, rfl, ?_⟩))
   go_ret
   exact ⟨zR, zD⟩
 subst J
 rw [if_pos rfl] at H
 have H' := zK H
 clear H
 have q : 0 ≤ (l : Int) := z3
 have u : l < (y.length : Int) := z3
 obtain ⟨L, A, E⟩ := Kd.at_int T.out l q u
 cases A
 replace q := eq_true q
 replace u := eq_true u
 go_wp2_with (first | ((with_reducible refine gc 27 rfl ?_); refine zF 18 Try.func27 #[.int .i64 (rd y l), .int .i64 0, .int .i64 (wrap64 (z - 1))] rfl zL ?_; (with_reducible refine (spec_l5In.calls (rd y l) 0 (wrap64 (z - 1)) true _ A5.out).mono ?_); rintro e w' ⟨rfl, ⟨nd, rfl⟩⟩; refine ⟨_, rfl, ?_⟩))
 go_roundg k1
 case measure => have := U.out; omega
 case rel => exact ⟨(wrap64 (l + 1)), zR, H', ⟨by have := U.out; omega⟩, zD⟩
def spec_l21Sum.l0 : Nat → List Int → Int → Int → Option (Int)
 | 0, _, _, _ => none
 | k + 1, q, u, l => if l < (q.length : Int) then (if 0 ≤ l then (spec_l21Sum.l0 k q (wrap64 (u + (rd q l))) (wrap64 (l + 1))) else (none)) else (some u)
def spec_l21Sum.f (k : Nat) (l : List Int) : Option (Int) := spec_l21Sum.l0 k l 0 0
theorem spec_l21Sum.calls (k) (T) (U) (q : List Int) (r) (w) (E : Kd.C (Kd.int .i64) w T q.length q) (I : q.length ≤ U) (h : spec_l21Sum.f k q = some r) :
 Calls Try.prog 49 #[.slice T q.length U] w fun e w' => e = .returned (.int .i64 r) ∧ Drawn0 w w' := by
 have X := zK E
 have d0 := zK I
 clear E I
 have H : (spec_l21Sum.l0 k q 0 0) = some r := h
 clear h
 have H' := zK H
 clear H
 go_enter Try.func49, Try.ntmps49
 go_wp2
 go_loopg [3, 4] k (fun kq v3 v4 w' => ∃ (u : Int) (l : Int), v3 = .int .i64 u ∧ v4 = .int .i64 l ∧ Aside0 (spec_l21Sum.l0 kq q u l = some r) ∧ Aside0 (kq ≤ k) ∧ Drawn0 w w')
 case atStart => exact ⟨(0), (0), zR, zR, H', ⟨Nat.le_refl _⟩, zD⟩
 clear H'
 obtain ⟨u, l, rfl, rfl, HA, J, ⟨m1, rfl⟩⟩ := hrel
 rcases gk with _ | k1
 · exact absurd HA.out (by simp [spec_l21Sum.l0])
 have H := HA.out
 clear HA
 simp only [spec_l21Sum.l0] at H
 by_cases A : l < (q.length : Int)
 rotate_left
 · rw [if_neg A] at H
   have L := z2 A
   clear A
   obtain rfl := z5 H
   go_wp2
   go_ret
   exact ⟨zR, zD⟩
 rw [if_pos A] at H
 have L := z1 A
 clear A
 by_cases B : 0 ≤ l
 rotate_left
 · rw [if_neg B] at H
   exact absurd H (by simp)
 rw [if_pos B] at H
 have b0 := z1 B
 clear B
 have H' := zK H
 clear H
 have y : 0 ≤ (l : Int) := z3
 have z : l < (q.length : Int) := z3
 obtain ⟨a0, M, O⟩ := Kd.at_int X.out l y z
 cases M
 replace y := eq_true y
 replace z := eq_true z
 go_wp2
 go_roundg k1
 case measure => have := J.out; omega
 case rel => exact ⟨(wrap64 (u + (rd q l))), (wrap64 (l + 1)), zR, zR, H', ⟨by have := J.out; omega⟩, zD⟩
def spec_l21Weights.l0 : Nat → List Int → Int → Option (Bool)
 | 0, _, _ => none
 | k + 1, l, q => if q < (l.length : Int) then (if 0 ≤ q then ((spec_l5In.f (rd l q) 0 1000).bind fun u => (if u = true then (spec_l21Weights.l0 k l (wrap64 (q + 1))) else (some false))) else (none)) else ((spec_l21Sum.f k l).bind fun y => (some (decide (y > 0))))
def spec_l21Weights.f (k : Nat) (l : List Int) : Option (Bool) := spec_l21Weights.l0 k l 0
theorem spec_l21Weights.calls (k) (A0) (c0) (q : List Int) (r : Bool) (w) (M : Kd.C (Kd.int .i64) w A0 q.length q) (O : q.length ≤ c0) (h : spec_l21Weights.f k q = some r) :
 Calls Try.prog 29 #[.slice A0 q.length c0] w fun e w' => e = .returned (.bool r) ∧ Drawn0 w w' := by
 have E := zK M
 have g0 := zK O
 clear M O
 have H : (spec_l21Weights.l0 k q 0) = some r := h
 clear h
 have H' := zK H
 clear H
 go_enter Try.func29, Try.ntmps29
 go_wp2
 go_loopg [3] k (fun kq v3 w' => ∃ (l : Int), v3 = .int .i64 l ∧ Aside0 (spec_l21Weights.l0 kq q l = some r) ∧ Aside0 (kq ≤ k) ∧ Drawn0 w w')
 case atStart => exact ⟨(0), zR, H', ⟨Nat.le_refl _⟩, zD⟩
 clear H'
 obtain ⟨l, rfl, HA, T, ⟨m1, rfl⟩⟩ := hrel
 rcases gk with _ | k1
 · exact absurd HA.out (by simp [spec_l21Weights.l0])
 have H := HA.out
 clear HA
 simp only [spec_l21Weights.l0] at H
 by_cases A : l < (q.length : Int)
 rotate_left
 · rw [if_neg A] at H
   have d0 := z2 A
   clear A
   replace H := z6 H
   obtain ⟨e0, U, H⟩ := H
   have A6 := zK U
   clear U
   obtain rfl := z5 H
   go_wp2_with (first | ((with_reducible refine gc 49 rfl ?_); refine zF 17 Try.func49 #[.slice A0 q.length c0] rfl zL ?_; refine (spec_l21Sum.calls k1 _ _ q e0 _ (zC E.out) g0.out A6.out).mono ?_; rintro e w' ⟨rfl, ⟨nd, rfl⟩⟩; refine ⟨_, rfl, ?_⟩))
   go_ret
   exact ⟨zR, zD⟩
 rw [if_pos A] at H
 have d0 := z1 A
 clear A
 by_cases I : 0 ≤ l
 rotate_left
 · rw [if_neg I] at H
   exact absurd H (by simp)
 rw [if_pos I] at H
 have m0 := z1 I
 clear I
 replace H := z6 H
 obtain ⟨f0, X, H⟩ := H
 have A4 := zK X
 clear X
 by_cases J : f0 = true
 rotate_left
 · replace J := Bool.eq_false_iff.mpr J
   subst J
   rw [if_neg (show ¬ (false = true) by decide)] at H
   obtain rfl := z5 H
   have u : 0 ≤ (l : Int) := z3
   have y : l < (q.length : Int) := z3
   obtain ⟨L, z, B⟩ := Kd.at_int E.out l u y
   cases z
   replace u := eq_true u
   replace y := eq_true y
   go_wp2_with (first | ((with_reducible refine gc 27 rfl ?_); refine zF 14 Try.func27 #[.int .i64 (rd q l), .int .i64 0, .int .i64 1000] rfl zL ?_; (with_reducible refine (spec_l5In.calls (rd q l) 0 1000 false _ A4.out).mono ?_); rintro e w' ⟨rfl, ⟨nd, rfl⟩⟩; refine ⟨_, rfl, ?_⟩))
   go_ret
   exact ⟨zR, zD⟩
 subst J
 rw [if_pos rfl] at H
 have H' := zK H
 clear H
 have u : 0 ≤ (l : Int) := z3
 have y : l < (q.length : Int) := z3
 obtain ⟨L, z, B⟩ := Kd.at_int E.out l u y
 cases z
 replace u := eq_true u
 replace y := eq_true y
 go_wp2_with (first | ((with_reducible refine gc 27 rfl ?_); refine zF 14 Try.func27 #[.int .i64 (rd q l), .int .i64 0, .int .i64 1000] rfl zL ?_; (with_reducible refine (spec_l5In.calls (rd q l) 0 1000 true _ A4.out).mono ?_); rintro e w' ⟨rfl, ⟨nd, rfl⟩⟩; refine ⟨_, rfl, ?_⟩))
 go_roundg k1
 case measure => have := T.out; omega
 case rel => exact ⟨(wrap64 (l + 1)), zR, H', ⟨by have := T.out; omega⟩, zD⟩
end Go.Proofs.Ytdlhmhgpafegpaa.PFnExactWeights
