-- Printed out of the translation by this session's own turned copy of a printer; Lean checks it.
import Derived.Test.YtdlhmhgpafegpaaPFnExactPagesOfx0
namespace Go.Proofs.Ytdlhmhgpafegpaa.PFnExactPagesOf
open Go.RowKit Go.Proofs.YtdlhmhgpafegpaaW.PrintWords Go.Proofs.YtdlhmhgpafegpaaW.PrintLast Go.Proofs.YtdlhmhgpafegpaaW.PrintMore
attribute [local go_sem] max2_int min2_int max_two min_two max_three min_three max_four min_four
set_option linter.unusedVariables false
set_option linter.unusedSimpArgs false
set_option maxHeartbeats 8000000
set_option maxRecDepth 100000
def laws_eqIntS.l0 : Nat → List Int → List Int → Int → Option (Bool)
 | 0, _, _, _ => none
 | k + 1, q, u, l => if l < (q.length : Int) then (if 0 ≤ l then (if l < (u.length : Int) then (if (rd q l) = (rd u l) then (laws_eqIntS.l0 k q u (wrap64 (l + 1))) else (some false)) else (none)) else (none)) else (some true)
def laws_eqIntS.f (k : Nat) (l : List Int) (q : List Int) : Option (Bool) := if (l.length : Int) = (q.length : Int) then (laws_eqIntS.l0 k l q 0) else (some false)
theorem laws_eqIntS.calls (k) (A0) (c0) (q : List Int) (A1) (c1) (u : List Int) (r : Bool) (w) (g0 : Kd.C (Kd.int .i64) w A0 q.length q) (i0 : q.length ≤ c0) (j0 : Kd.C (Kd.int .i64) w A1 u.length u) (m0 : u.length ≤ c1) (h : laws_eqIntS.f k q u = some r) :
 Calls Try.prog 22 #[.slice A0 q.length c0, .slice A1 u.length c1] w fun e w' => e = .returned (.bool r) ∧ Drawn0 w w' := by
 have n0 := zK g0
 have F0 := zK i0
 clear g0 i0
 have o0 := zK j0
 have G0 := zK m0
 clear j0 m0
 have H : (if (q.length : Int) = (u.length : Int) then (laws_eqIntS.l0 k q u 0) else (some false)) = some r := h
 clear h
 by_cases E : (q.length : Int) = (u.length : Int)
 rotate_left
 · rw [if_neg E] at H
   have U := beq_eq_false_iff_ne.mpr E
   have X := bne_iff_ne.mpr E
   have a0 : (q.length == u.length) = false := by first | simpa using E | (simp at E ⊢; omega)
   obtain rfl := z5 H
   go_enter Try.func22, Try.ntmps22
   go_wp2
   repeat (go_quiet (fail); try go_wp2)
   go_ret
   exact ⟨zR, zD⟩
 rw [if_pos E] at H
 have U := beq_iff_eq.mpr E
 have X := bne_eq_false_iff_eq.mpr E
 have a0 : (q.length == u.length) = true := by first | simpa using E | (simp at E ⊢; omega)
 clear E
 have H' := zK H
 clear H
 go_enter Try.func22, Try.ntmps22
 go_wp2
 repeat (go_quiet (fail); try go_wp2)
 go_loopg [5] k (fun kq v5 w' => ∃ (l : Int), v5 = .int .i64 l ∧ Aside0 (laws_eqIntS.l0 kq q u l = some r) ∧ Aside0 (kq ≤ k) ∧ Drawn0 w w')
 case atStart => exact ⟨(0), zR, H', ⟨Nat.le_refl _⟩, zD⟩
 clear H'
 try clear c1
 try clear c2
 try clear p2
 try clear E
 try clear U
 try clear X
 try clear a0
 obtain ⟨l, rfl, HA, p0, ⟨m1, rfl⟩⟩ := hrel
 rcases gk with _ | k1
 · exact absurd HA.out (by simp [laws_eqIntS.l0])
 have H := HA.out
 clear HA
 simp only [laws_eqIntS.l0] at H
 by_cases M : l < (q.length : Int)
 rotate_left
 · rw [if_neg M] at H
   have s0 := z2 M
   clear M
   obtain rfl := z5 H
   go_wp2
   repeat (go_quiet (fail); try go_wp2)
   go_ret
   exact ⟨zR, zD⟩
 rw [if_pos M] at H
 have s0 := z1 M
 clear M
 by_cases c5 : 0 ≤ l
 rotate_left
 · rw [if_neg c5] at H
   exact absurd H (by simp)
 rw [if_pos c5] at H
 have D0 := z1 c5
 clear c5
 by_cases c6 : l < (u.length : Int)
 rotate_left
 · rw [if_neg c6] at H
   exact absurd H (by simp)
 rw [if_pos c6] at H
 have E0 := z1 c6
 clear c6
 by_cases I : (rd q l) = (rd u l)
 rotate_left
 · rw [if_neg I] at H
   have t0 := beq_eq_false_iff_ne.mpr I
   have x0 := bne_iff_ne.mpr I
   obtain rfl := z5 H
   have y : 0 ≤ (l : Int) := z3
   have z : l < (q.length : Int) := z3
   obtain ⟨e0, J, O⟩ := Kd.at_int n0.out l y z
   cases J
   replace y := eq_true y
   replace z := eq_true z
   have A : 0 ≤ (l : Int) := z3
   have B : l < (u.length : Int) := z3
   obtain ⟨f0, L, T⟩ := Kd.at_int o0.out l A B
   cases L
   replace A := eq_true A
   replace B := eq_true B
   go_wp2
   repeat (go_quiet (fail); try go_wp2)
   go_ret
   exact ⟨zR, zD⟩
 rw [if_pos I] at H
 have t0 := beq_iff_eq.mpr I
 have x0 := bne_eq_false_iff_eq.mpr I
 clear I
 have H' := zK H
 clear H
 have y : 0 ≤ (l : Int) := z3
 have z : l < (q.length : Int) := z3
 obtain ⟨e0, J, O⟩ := Kd.at_int n0.out l y z
 cases J
 replace y := eq_true y
 replace z := eq_true z
 have A : 0 ≤ (l : Int) := z3
 have B : l < (u.length : Int) := z3
 obtain ⟨f0, L, T⟩ := Kd.at_int o0.out l A B
 cases L
 replace A := eq_true A
 replace B := eq_true B
 go_wp2
 repeat (go_quiet (fail); try go_wp2)
 go_roundg k1
 case measure => have := p0.out; omega
 case rel => exact ⟨(wrap64 (l + 1)), zR, H', ⟨by have := p0.out; omega⟩, zD⟩
def laws_eqRow.f (k : Nat) (l : List Int) (q : List Int) (u : List Int) (y : List Int) : Option (Bool) := (laws_eqIntS.f k l u).bind fun z => (if z = true then ((laws_eqIntS.f k q y).bind fun A => (if A = true then (some true) else (some false))) else (some false))
theorem laws_eqRow.calls (k) (A) (B) (l : List Int) (E) (I) (q : List Int) (J) (L) (u : List Int) (M) (O) (y : List Int) (r : Bool) (w) (b0 : Kd.C (Kd.int .i64) w A l.length l) (c0 : l.length ≤ B) (d0 : Kd.C (Kd.int .i64) w E q.length q) (e0 : q.length ≤ I) (f0 : Kd.C (Kd.int .i64) w J u.length u) (g0 : u.length ≤ L) (i0 : Kd.C (Kd.int .i64) w M y.length y) (j0 : y.length ≤ O) (h : laws_eqRow.f k l q u y = some r) :
 Calls Try.prog 57 #[.agg #[.slice A l.length B, .slice E q.length I], .agg #[.slice J u.length L, .slice M y.length O]] w fun e w' => e = .returned (.bool r) ∧ Below w.heap.size w w' := by
 have i1 := Try.underlying57
 have q0 := zK b0
 have s0 := zK c0
 clear b0 c0
 have t0 := zK d0
 have x0 := zK e0
 clear d0 e0
 have y0 := zK f0
 have A0 := zK g0
 clear f0 g0
 have B0 := zK i0
 have C0 := zK j0
 clear i0 j0
 have HB := zK (Below.refl w.heap.size w)
 have H : ((laws_eqIntS.f k l u).bind fun X => (if X = true then ((laws_eqIntS.f k q y).bind fun a0 => (if a0 = true then (some true) else (some false))) else (some false))) = some r := h
 clear h
 replace H := z6 H
 obtain ⟨X, F0, H⟩ := H
 have A3 := zK F0
 clear F0
 rcases zN (X = true) with c4 | c4
 replace c4 := Bool.eq_false_iff.mpr c4
 subst c4
 rw [if_neg (show ¬ (false = true) by decide)] at H
 obtain rfl := z5 H
 rotate_left
 subst c4
 rw [if_pos rfl] at H
 replace H := z6 H
 obtain ⟨a0, G0, H⟩ := H
 have A5 := zK G0
 clear G0
 by_cases c6 : a0 = true
 subst c6
 rw [if_pos rfl] at H
 obtain rfl := z5 H
 rotate_left
 replace c6 := Bool.eq_false_iff.mpr c6
 subst c6
 rw [if_neg (show ¬ (false = true) by decide)] at H
 obtain rfl := z5 H
 all_goals go_enter Try.func57, Try.ntmps57
 all_goals go_wp2_with (first | ((with_reducible refine gd 2 rfl ?_); refine zJ 2 #[.slice A l.length B, .slice E q.length I] 57 ?_; intro X0 hg m1 hbox hb; have m0 := z8 hb; have n0 := zK (hbox); have o0 := z9 hg; have p0 := z9 hg; revert m0 n0 o0 p0; clear HB; intro HB z a1 b1; clear hb hbox hg) | ((with_reducible refine gd 3 rfl ?_); refine zJ 3 #[.slice J u.length L, .slice M y.length O] 57 ?_; intro c1 hg n1 hbox hb; have m0 := z7 z hb; have n0 := z8 hb; have o0 := zK (hbox); have p0 := z9 hg; have T0 := z9 hg; have U0 := zHH hg z; have V0 := zGG hg z; revert m0 n0 o0 p0 T0 U0 V0; clear z HB; intro z HB E0 d1 e1 T U; clear hb hbox hg; have f1 := T.out; have g1 := U.out; obtain ⟨I0, J0, L0, M0⟩ := zc2 z; obtain ⟨N0, O0, R0, S0⟩ := zc2 E0) | ((with_reducible refine gc 22 rfl ?_); refine zF 9 Try.func22 #[.slice A l.length B, .slice J u.length L] rfl zL ?_; refine (laws_eqIntS.calls k _ _ l _ _ u _ _ (zS q0) s0.out (zS y0) A0.out A3.out).mono ?_; rintro e w' ⟨rfl, ⟨nd, rfl⟩⟩; refine ⟨_, rfl, ?_⟩) | ((with_reducible refine gc 22 rfl ?_); refine zF 15 Try.func22 #[.slice E q.length I, .slice M y.length O] rfl zL ?_; refine (laws_eqIntS.calls k _ _ q _ _ y _ _ (zS t0) x0.out (zS B0) C0.out A5.out).mono ?_; rintro e w' ⟨rfl, ⟨nd, rfl⟩⟩; refine ⟨_, rfl, ?_⟩))
 all_goals go_ret
 all_goals exact ⟨zE, zB⟩
def laws_eqRowS.l0 : Nat → List (S57) → List (S57) → Int → Option (Bool)
 | 0, _, _, _ => none
 | k + 1, q, u, l => if l < (q.length : Int) then (if 0 ≤ l then (if l < (u.length : Int) then ((laws_eqRow.f k ((rd_T57 q l).f0) ((rd_T57 q l).f1) ((rd_T57 u l).f0) ((rd_T57 u l).f1)).bind fun y => (if y = true then (laws_eqRowS.l0 k q u (wrap64 (l + 1))) else (some false))) else (none)) else (none)) else (some true)
def laws_eqRowS.f (k : Nat) (l : List (S57)) (q : List (S57)) : Option (Bool) := if (l.length : Int) = (q.length : Int) then (laws_eqRowS.l0 k l q 0) else (some false)
def laws_eqRowS.T6 : Bool × List (List Nat × List Nat) := (true, [([], []), ([], []), ([0, 1], [0, 1]), ([2], [2]), ([], []), ([], []), ([4, 5], [4, 5]), ([6], [6]), ([3, 7], [3, 7]), ([8], [8])])
def laws_eqRowS.B6 : List Nat := [0, 0, 3, 7, 0, 0, 48, 112, 255, 511]
theorem laws_eqRowS.tab6 : rtab .any (opsOf Try.f37 6) = laws_eqRowS.T6 := by kernel_rfl
theorem laws_eqRowS.bits6 : waitsOk laws_eqRowS.T6.2 laws_eqRowS.B6 = true := by kernel_rfl
theorem laws_eqRowS.calls (k) (A0) (c0) (A : List (S57)) (A1) (c1) (B : List (S57)) (r : Bool) (w) (e1 : Kd.C k57 w A0 A.length A) (g1 : A.length ≤ c0) (i1 : Kd.C k57 w A1 B.length B) (j1 : B.length ≤ c1) (h : laws_eqRowS.f k A B = some r) :
 Calls Try.prog 37 #[.slice A0 A.length c0, .slice A1 B.length c1] w fun e w' => e = .returned (.bool r) ∧ Below w.heap.size w w' := by
 have J1 := Try.underlying57
 have m1 := zK e1
 have N1 := zK g1
 clear e1 g1
 have n1 := zK i1
 have O1 := zK j1
 clear i1 j1
 have HB := zK (Below.refl w.heap.size w)
 have H : (if (A.length : Int) = (B.length : Int) then (laws_eqRowS.l0 k A B 0) else (some false)) = some r := h
 clear h
 by_cases c3 : (A.length : Int) = (B.length : Int)
 rotate_left
 · rw [if_neg c3] at H
   have U0 := beq_eq_false_iff_ne.mpr c3
   have V0 := bne_iff_ne.mpr c3
   have X0 : (A.length == B.length) = false := by first | simpa using c3 | (simp at c3 ⊢; omega)
   obtain rfl := z5 H
   go_enter Try.func37, Try.ntmps37
   go_wp2
   go_ret
   exact ⟨zE, zB⟩
 rw [if_pos c3] at H
 have U0 := beq_iff_eq.mpr c3
 have V0 := bne_eq_false_iff_eq.mpr c3
 have X0 : (A.length == B.length) = true := by first | simpa using c3 | (simp at c3 ⊢; omega)
 clear c3
 have H' := zK H
 clear H
 go_enter Try.func37, Try.ntmps37
 go_wp2
 go_loopg [5] k (fun kq v5 w' => ∃ (l : Int), v5 = .int .i64 l ∧ Aside0 (laws_eqRowS.l0 kq A B l = some r) ∧ Aside0 (kq ≤ k) ∧ Aside0 (Below w.heap.size w w'))
 case atStart => exact ⟨(0), zR, H', ⟨Nat.le_refl _⟩, ⟨zB⟩⟩
 clear H'
 try clear c1
 try clear p2
 try clear c3
 try clear U0
 try clear V0
 try clear X0
 obtain ⟨l, rfl, HA, o1, HB⟩ := hrel
 rcases gk with _ | k1
 · exact absurd HA.out (by simp [laws_eqRowS.l0])
 have H := HA.out
 clear HA
 simp only [laws_eqRowS.l0] at H
 by_cases c4 : l < (A.length : Int)
 rotate_left
 · rw [if_neg c4] at H
   have t1 := z2 c4
   clear c4
   obtain rfl := z5 H
   go_wp2
   go_ret
   exact ⟨zE, zB⟩
 rw [if_pos c4] at H
 have t1 := z1 c4
 clear c4
 by_cases c5 : 0 ≤ l
 rotate_left
 · rw [if_neg c5] at H
   exact absurd H (by simp)
 rw [if_pos c5] at H
 have L1 := z1 c5
 clear c5
 by_cases c6 : l < (B.length : Int)
 rotate_left
 · rw [if_neg c6] at H
   exact absurd H (by simp)
 rw [if_pos c6] at H
 have M1 := z1 c6
 clear c6
 replace H := z6 H
 obtain ⟨x1, p1, H⟩ := H
 have A7 := zK p1
 clear p1
 by_cases c8 : x1 = true
 rotate_left
 · replace c8 := Bool.eq_false_iff.mpr c8
   subst c8
   rw [if_neg (show ¬ (false = true) by decide)] at H
   obtain rfl := z5 H
   try go_wp2
   have O0 := zK (ze HB.out)
   revert O0
   clear HB
   intro HB
   have D0 : 0 ≤ (l : Int) := z3
   have E0 : l < (A.length : Int) := z3
   obtain ⟨m0, o0, p0, q0, t0, R0, q, u, E, I, J, L⟩ := at_T57 m1.out l D0 E0
   have M := u
   have O := q
   cases R0
   (try replace q := zX HB q)
   (try replace u := zX HB u)
   have T := zK I
   have I0 := zK E
   clear I E
   have U := zK L
   have J0 := zK J
   clear L J
   replace D0 := eq_true D0
   replace E0 := eq_true E0
   have F0 : 0 ≤ (l : Int) := z3
   have G0 : l < (B.length : Int) := z3
   obtain ⟨n0, x0, y0, B0, C0, S0, y, z, X, a0, b0, d0⟩ := at_T57 n1.out l F0 G0
   have e0 := z
   have g0 := y
   cases S0
   (try replace y := zX HB y)
   (try replace z := zX HB z)
   have i0 := zK a0
   have L0 := zK X
   clear a0 X
   have j0 := zK d0
   have M0 := zK b0
   clear d0 b0
   replace F0 := eq_true F0
   replace G0 := eq_true G0
   refine start_ (n := 10) (S := fun w' => w'.cell? (m0.add ((l).toNat * 2)) = some (.slice o0 ((rd_T57 A l).f0).length p0) ∧ w'.cell? ⟨(m0.add ((l).toNat * 2)).block, (m0.add ((l).toNat * 2)).off + 1, none⟩ = some (.slice q0 ((rd_T57 A l).f1).length t0) ∧ w'.cell? (n0.add ((l).toNat * 2)) = some (.slice x0 ((rd_T57 B l).f0).length y0) ∧ w'.cell? ⟨(n0.add ((l).toNat * 2)).block, (n0.add ((l).toNat * 2)).off + 1, none⟩ = some (.slice B0 ((rd_T57 B l).f1).length C0)) (ds := []) (bl 10 0) (by kernel_rfl) rfl (by kernel_rfl) ⟨(zX HB O:), (zX HB M:), (zX HB g0:), (zX HB e0:)⟩ (fun hHeld => ?_); refine with_tabW laws_eqRowS.tab6 laws_eqRowS.bits6 (fun HT_ HW_ => ?_)
   generalize wr.drew = R1 at HB T U i0 j0 q u y z hHeld ⊢
   refine zP 0 17 (bl 10 1) HT_ ?_
   refine zP 1 18 (bl 10 3) HT_ ?_
   refine zP 2 19 (bl 10 7) HT_ ?_
   refine zP 4 21 (bl 10 23) HT_ ?_
   refine zP 5 22 (bl 10 55) HT_ ?_
   refine zP 6 23 (bl 10 119) HT_ ?_
   refine zT 3 20 (bl 10 127) rfl rfl HT_ HW_ hHeld (by rintro w' ⟨s0, s1, s2, s3⟩; go_simp; with_reducible rfl) ?_
   refine zT 7 24 (bl 10 255) rfl rfl HT_ HW_ hHeld (by rintro w' ⟨s0, s1, s2, s3⟩; go_simp; with_reducible rfl) ?_
   refine one_ (i := 8) (N := some 25) (bl 10 511) rfl rfl (one_of HT_.out (by kernel_rfl)) (by decide) (fun K hK => ?_)
   refine goes_ Try.func57 (by kernel_rfl) rfl #[.agg #[.slice o0 ((rd_T57 A l).f0).length p0, .slice q0 ((rd_T57 A l).f1).length t0], .agg #[.slice x0 ((rd_T57 B l).f0).length y0, .slice B0 ((rd_T57 B l).f1).length C0]] (by rfl) rfl rfl zL ?_
   refine (laws_eqRow.calls k1 _ _ ((rd_T57 A l).f0) _ _ ((rd_T57 A l).f1) _ _ ((rd_T57 B l).f0) _ _ ((rd_T57 B l).f1) false _ (zS T) I0.out (zS U) J0.out (zS i0) L0.out (zS j0) M0.out A7.out).mono ?_
   rintro e S1 ⟨rfl, hb⟩
   refine ⟨_, rfl, ?_⟩
   have O0 := z8 hb
   revert O0
   clear HB
   intro HB
   (try clear hb)
   (try clear hb2)
   (try clear hk)
   (try clear hi)
   refine hK.out _ _ ⟨(zX HB O:), (zX HB M:), (zX HB g0:), (zX HB e0:)⟩ (fun hHeld => ?_)
   clear hK K
   refine zU 25 ?_
   refine zP 9 26 (bl 10 1023) HT_ ?_
   refine done_ (done_of HT_.out (by kernel_rfl)) ?_
   try go_wp2
   go_ret
   exact ⟨zE, zB⟩
 subst c8
 rw [if_pos rfl] at H
 have H' := zK H
 clear H
 try go_wp2
 have O0 := zK (ze HB.out)
 revert O0
 clear HB
 intro HB
 have D0 : 0 ≤ (l : Int) := z3
 have E0 : l < (A.length : Int) := z3
 obtain ⟨m0, o0, p0, q0, t0, R0, q, u, E, I, J, L⟩ := at_T57 m1.out l D0 E0
 have M := u
 have O := q
 cases R0
 (try replace q := zX HB q)
 (try replace u := zX HB u)
 have T := zK I
 have I0 := zK E
 clear I E
 have U := zK L
 have J0 := zK J
 clear L J
 replace D0 := eq_true D0
 replace E0 := eq_true E0
 have F0 : 0 ≤ (l : Int) := z3
 have G0 : l < (B.length : Int) := z3
 obtain ⟨n0, x0, y0, B0, C0, S0, y, z, X, a0, b0, d0⟩ := at_T57 n1.out l F0 G0
 have e0 := z
 have g0 := y
 cases S0
 (try replace y := zX HB y)
 (try replace z := zX HB z)
 have i0 := zK a0
 have L0 := zK X
 clear a0 X
 have j0 := zK d0
 have M0 := zK b0
 clear d0 b0
 replace F0 := eq_true F0
 replace G0 := eq_true G0
 refine start_ (n := 10) (S := fun w' => w'.cell? (m0.add ((l).toNat * 2)) = some (.slice o0 ((rd_T57 A l).f0).length p0) ∧ w'.cell? ⟨(m0.add ((l).toNat * 2)).block, (m0.add ((l).toNat * 2)).off + 1, none⟩ = some (.slice q0 ((rd_T57 A l).f1).length t0) ∧ w'.cell? (n0.add ((l).toNat * 2)) = some (.slice x0 ((rd_T57 B l).f0).length y0) ∧ w'.cell? ⟨(n0.add ((l).toNat * 2)).block, (n0.add ((l).toNat * 2)).off + 1, none⟩ = some (.slice B0 ((rd_T57 B l).f1).length C0)) (ds := []) (bl 10 0) (by kernel_rfl) rfl (by kernel_rfl) ⟨(zX HB O:), (zX HB M:), (zX HB g0:), (zX HB e0:)⟩ (fun hHeld => ?_); refine with_tabW laws_eqRowS.tab6 laws_eqRowS.bits6 (fun HT_ HW_ => ?_)
 generalize wr.drew = w9 at HB T U i0 j0 q u y z hHeld ⊢
 refine zP 0 17 (bl 10 1) HT_ ?_
 refine zP 1 18 (bl 10 3) HT_ ?_
 refine zP 2 19 (bl 10 7) HT_ ?_
 refine zP 4 21 (bl 10 23) HT_ ?_
 refine zP 5 22 (bl 10 55) HT_ ?_
 refine zP 6 23 (bl 10 119) HT_ ?_
 refine zT 3 20 (bl 10 127) rfl rfl HT_ HW_ hHeld (by rintro w' ⟨s0, s1, s2, s3⟩; go_simp; with_reducible rfl) ?_
 refine zT 7 24 (bl 10 255) rfl rfl HT_ HW_ hHeld (by rintro w' ⟨s0, s1, s2, s3⟩; go_simp; with_reducible rfl) ?_
 refine one_ (i := 8) (N := some 25) (bl 10 511) rfl rfl (one_of HT_.out (by kernel_rfl)) (by decide) (fun K hK => ?_)
 refine goes_ Try.func57 (by kernel_rfl) rfl #[.agg #[.slice o0 ((rd_T57 A l).f0).length p0, .slice q0 ((rd_T57 A l).f1).length t0], .agg #[.slice x0 ((rd_T57 B l).f0).length y0, .slice B0 ((rd_T57 B l).f1).length C0]] (by rfl) rfl rfl zL ?_
 refine (laws_eqRow.calls k1 _ _ ((rd_T57 A l).f0) _ _ ((rd_T57 A l).f1) _ _ ((rd_T57 B l).f0) _ _ ((rd_T57 B l).f1) true _ (zS T) I0.out (zS U) J0.out (zS i0) L0.out (zS j0) M0.out A7.out).mono ?_
 rintro e T1 ⟨rfl, hb⟩
 refine ⟨_, rfl, ?_⟩
 have O0 := z8 hb
 revert O0
 clear HB
 intro HB
 (try clear hb)
 (try clear hb2)
 (try clear hk)
 (try clear hi)
 refine hK.out _ _ ⟨(zX HB O:), (zX HB M:), (zX HB g0:), (zX HB e0:)⟩ (fun hHeld => ?_)
 clear hK K
 refine zU 25 ?_
 refine zP 9 26 (bl 10 1023) HT_ ?_
 refine done_ (done_of HT_.out (by kernel_rfl)) ?_
 try go_wp2
 go_roundg k1
 case measure => have := o1.out; omega
 case rel => exact ⟨(wrap64 (l + 1)), zR, H', ⟨by have := o1.out; omega⟩, ⟨zB⟩⟩
def laws_eqLm.f (k : Nat) (l : Int) (q : List (S57)) (u : Int) (y : List (S57)) : Option (Bool) := if l = u then ((laws_eqRowS.f k q y).bind fun z => (if z = true then (some true) else (some false))) else (some false)
theorem laws_eqLm.calls (k) (z) (B) (E) (q : List (S57)) (A) (I) (J) (u : List (S57)) (r : Bool) (w) (b0 : Kd.C k57 w B q.length q) (c0 : q.length ≤ E) (d0 : Kd.C k57 w I u.length u) (e0 : u.length ≤ J) (h : laws_eqLm.f k z q A u = some r) :
 Calls Try.prog 11 #[.agg #[.int .i64 z, .slice B q.length E], .agg #[.int .i64 A, .slice I u.length J]] w fun e w' => e = .returned (.bool r) ∧ Below w.heap.size w w' := by
 have S0 := Try.underlying29
 have g0 := zK b0
 have i0 := zK c0
 clear b0 c0
 have j0 := zK d0
 have l0 := zK e0
 clear d0 e0
 have HB := zK (Below.refl w.heap.size w)
 have H : (if z = A then ((laws_eqRowS.f k q u).bind fun a0 => (if a0 = true then (some true) else (some false))) else (some false)) = some r := h
 clear h
 rcases zN (z = A) with L | L
 rw [if_neg L] at H
 have o0 := beq_eq_false_iff_ne.mpr L
 have p0 := bne_iff_ne.mpr L
 obtain rfl := z5 H
 rotate_left
 rw [if_pos L] at H
 have o0 := beq_iff_eq.mpr L
 have p0 := bne_eq_false_iff_eq.mpr L
 clear L
 replace H := z6 H
 obtain ⟨a0, n0, H⟩ := H
 have A4 := zK n0
 clear n0
 by_cases c5 : a0 = true
 subst c5
 rw [if_pos rfl] at H
 obtain rfl := z5 H
 rotate_left
 replace c5 := Bool.eq_false_iff.mpr c5
 subst c5
 rw [if_neg (show ¬ (false = true) by decide)] at H
 obtain rfl := z5 H
 all_goals go_enter Try.func11, Try.ntmps11
 all_goals go_wp2_with (first | ((with_reducible refine gd 2 rfl ?_); refine zJ 2 #[.int .i64 z, .slice B q.length E] 29 ?_; intro G0 hg U0 hbox hb; have M := z8 hb; have O := zK (hbox); have T := z9 hg; have f0 := z9 hg; revert M O T f0; clear HB; intro HB l I0 J0; clear hb hbox hg) | ((with_reducible refine gd 3 rfl ?_); refine zJ 3 #[.int .i64 A, .slice I u.length J] 29 ?_; intro L0 hg V0 hbox hb; have M := z7 l hb; have O := z8 hb; have T := zK (hbox); have f0 := z9 hg; have D0 := z9 hg; have E0 := zHH hg l; have F0 := zGG hg l; revert M O T f0 D0 E0 F0; clear l HB; intro l HB y M0 N0 U X; clear hb hbox hg; have O0 := U.out; have R0 := X.out; obtain ⟨q0, s0, t0, x0⟩ := zc2 l; obtain ⟨y0, A0, B0, C0⟩ := zc2 y) | ((with_reducible refine gc 37 rfl ?_); refine zF 14 Try.func37 #[.slice B q.length E, .slice I u.length J] rfl zL ?_; refine (laws_eqRowS.calls k _ _ q _ _ u _ _ (zS g0) i0.out (zS j0) l0.out A4.out).mono ?_; rintro e X0 ⟨rfl, hb⟩; refine ⟨_, rfl, ?_⟩; have M := z7 l hb; have O := z7 y hb; have T := z8 hb; revert M O T; clear l y HB; intro l y HB))
 all_goals go_ret
 all_goals exact ⟨zE, zB⟩
def laws_eqChoice.f (l : Int) (q : Int) (u : Int) (y : Int) (z : Int) (A : Int) : Option (Bool) := if l = y then (if q = z then (if u = A then (some true) else (some false)) else (some false)) else (some false)
theorem laws_eqChoice.calls (q) (u) (y) (z) (A) (B) (r : Bool) (w) (h : laws_eqChoice.f q u y z A B = some r) :
 Calls Try.prog 41 #[.agg #[.int .i64 q, .int .i64 u, .int .i64 y], .agg #[.int .i64 z, .int .i64 A, .int .i64 B]] w fun e w' => e = .returned (.bool r) ∧ Below w.heap.size w w' := by
 have N0 := Try.underlying39
 have HB := zK (Below.refl w.heap.size w)
 have H : (if q = z then (if u = A then (if y = B then (some true) else (some false)) else (some false)) else (some false)) = some r := h
 clear h
 rcases zN (q = z) with E | E
 rw [if_neg E] at H
 have b0 := beq_eq_false_iff_ne.mpr E
 have c0 := bne_iff_ne.mpr E
 obtain rfl := z5 H
 rotate_left
 rw [if_pos E] at H
 have b0 := beq_iff_eq.mpr E
 have c0 := bne_eq_false_iff_eq.mpr E
 clear E
 rcases zN (u = A) with I | I
 rw [if_neg I] at H
 have d0 := beq_eq_false_iff_ne.mpr I
 have e0 := bne_iff_ne.mpr I
 obtain rfl := z5 H
 rotate_left
 rw [if_pos I] at H
 have d0 := beq_iff_eq.mpr I
 have e0 := bne_eq_false_iff_eq.mpr I
 clear I
 by_cases M : y = B
 rw [if_pos M] at H
 have f0 := beq_iff_eq.mpr M
 have g0 := bne_eq_false_iff_eq.mpr M
 clear M
 obtain rfl := z5 H
 rotate_left
 rw [if_neg M] at H
 have f0 := beq_eq_false_iff_ne.mpr M
 have g0 := bne_iff_ne.mpr M
 obtain rfl := z5 H
 all_goals go_enter Try.func41, Try.ntmps41
 all_goals go_wp2_with (first | ((with_reducible refine gd 2 rfl ?_); refine zJ 2 #[.int .i64 q, .int .i64 u, .int .i64 y] 39 ?_; intro D0 hg O0 hbox hb; have O := z8 hb; have T := zK (hbox); have U := z9 hg; have X := z9 hg; revert O T U X; clear HB; intro HB l E0 F0; clear hb hbox hg) | ((with_reducible refine gd 3 rfl ?_); refine zJ 3 #[.int .i64 z, .int .i64 A, .int .i64 B] 39 ?_; intro G0 hg R0 hbox hb; have O := z7 l hb; have T := z8 hb; have U := zK (hbox); have X := z9 hg; have A0 := z9 hg; have B0 := zHH hg l; have C0 := zGG hg l; revert O T U X A0 B0 C0; clear l HB; intro l HB a0 I0 J0 J L; clear hb hbox hg; have L0 := J.out; have M0 := L.out; obtain ⟨i0, j0, l0, m0, n0, o0⟩ := zc3 l; obtain ⟨p0, q0, s0, t0, x0, y0⟩ := zc3 a0))
 all_goals go_ret
 all_goals exact ⟨zE, zB⟩
end Go.Proofs.Ytdlhmhgpafegpaa.PFnExactPagesOf
