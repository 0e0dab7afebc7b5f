-- Printed out of the translation by this session's own turned copy of a printer; Lean checks it.
import Derived.Test.YtodfhokndnmdoaaPFnExactStepOptx0
namespace Go.Proofs.Ytodfhokndnmdoaa.PFnExactStepOpt
open Go.RowKit Go.Proofs.YtodfhokndnmdoaaW.PrintWords Go.Proofs.YtodfhokndnmdoaaW.PrintLast Go.Proofs.YtodfhokndnmdoaaW.PrintMore
attribute [local go_sem] max2_int min2_int max_two min_two max_three min_three max_four min_four
set_option linter.unusedVariables false
set_option linter.unusedSimpArgs false
set_option maxHeartbeats 8000000
set_option maxRecDepth 100000
def laws_eqIntS.l0 : Nat → List Int → List Int → Int → Option (Bool)
 | 0, _, _, _ => none
 | k + 1, l, q, a => if a < (l.length : Int) then (if 0 ≤ a then (if a < (q.length : Int) then (if (rd l a) = (rd q a) then (laws_eqIntS.l0 k l q (wrap64 (a + 1))) else (some false)) else (none)) else (none)) else (some true)
def laws_eqIntS.f (k : Nat) (a : List Int) (l : List Int) : Option (Bool) := if (a.length : Int) = (l.length : Int) then (laws_eqIntS.l0 k a l 0) else (some false)
theorem laws_eqIntS.calls (k) (A0) (c0) (l : List Int) (A1) (c1) (q : List Int) (r : Bool) (w) (d0 : Kd.C (Kd.int .i64) w A0 l.length l) (e0 : l.length ≤ c0) (f0 : Kd.C (Kd.int .i64) w A1 q.length q) (g0 : q.length ≤ c1) (h : laws_eqIntS.f k l q = some r) :
 Calls Try.prog 14 #[.slice A0 l.length c0, .slice A1 q.length c1] w fun e w' => e = .returned (.bool r) ∧ Drawn0 w w' := by
 have i0 := zK d0
 have C0 := zK e0
 clear d0 e0
 have j0 := zK f0
 have D0 := zK g0
 clear f0 g0
 have H : (if (l.length : Int) = (q.length : Int) then (laws_eqIntS.l0 k l q 0) else (some false)) = some r := h
 clear h
 by_cases A : (l.length : Int) = (q.length : Int)
 rotate_left
 · rw [if_neg A] at H
   have M := beq_eq_false_iff_ne.mpr A
   have O := bne_iff_ne.mpr A
   have T : (l.length == q.length) = false := by first | simpa using A | (simp at A ⊢; omega)
   obtain rfl := z5 H
   go_enter Try.func14, Try.ntmps14
   go_wp2
   repeat (go_quiet (fail); try go_wp2)
   go_ret
   exact ⟨zR, zD⟩
 rw [if_pos A] at H
 have M := beq_iff_eq.mpr A
 have O := bne_eq_false_iff_eq.mpr A
 have T : (l.length == q.length) = true := by first | simpa using A | (simp at A ⊢; omega)
 clear A
 have H' := zK H
 clear H
 go_enter Try.func14, Try.ntmps14
 go_wp2
 repeat (go_quiet (fail); try go_wp2)
 go_loopg [5] k (fun kq v5 w' => ∃ (a : Int), v5 = .int .i64 a ∧ Aside0 (laws_eqIntS.l0 kq l q a = some r) ∧ Aside0 (kq ≤ k) ∧ Drawn0 w w')
 case atStart => exact ⟨(0), zR, H', ⟨Nat.le_refl _⟩, zD⟩
 clear H'
 try clear c1
 try clear p2
 try clear A
 try clear M
 try clear O
 try clear T
 obtain ⟨a, rfl, HA, m0, ⟨m1, rfl⟩⟩ := hrel
 rcases gk with _ | k1
 · exact absurd HA.out (by simp [laws_eqIntS.l0])
 have H := HA.out
 clear HA
 simp only [laws_eqIntS.l0] at H
 by_cases I : a < (l.length : Int)
 rotate_left
 · rw [if_neg I] at H
   have o0 := z2 I
   clear I
   obtain rfl := z5 H
   go_wp2
   repeat (go_quiet (fail); try go_wp2)
   go_ret
   exact ⟨zR, zD⟩
 rw [if_pos I] at H
 have o0 := z1 I
 clear I
 by_cases U : 0 ≤ a
 rotate_left
 · rw [if_neg U] at H
   exact absurd H (by simp)
 rw [if_pos U] at H
 have y0 := z1 U
 clear U
 by_cases X : a < (q.length : Int)
 rotate_left
 · rw [if_neg X] at H
   exact absurd H (by simp)
 rw [if_pos X] at H
 have B0 := z1 X
 clear X
 by_cases B : (rd l a) = (rd q a)
 rotate_left
 · rw [if_neg B] at H
   have p0 := beq_eq_false_iff_ne.mpr B
   have q0 := bne_iff_ne.mpr B
   obtain rfl := z5 H
   have u : 0 ≤ (a : Int) := z3
   have x : a < (l.length : Int) := z3
   obtain ⟨a0, D, J⟩ := Kd.at_int i0.out a u x
   cases D
   replace u := eq_true u
   replace x := eq_true x
   have y : 0 ≤ (a : Int) := z3
   have z : a < (q.length : Int) := z3
   obtain ⟨b0, E, L⟩ := Kd.at_int j0.out a y z
   cases E
   replace y := eq_true y
   replace z := eq_true z
   go_wp2
   repeat (go_quiet (fail); try go_wp2)
   go_ret
   exact ⟨zR, zD⟩
 rw [if_pos B] at H
 have p0 := beq_iff_eq.mpr B
 have q0 := bne_eq_false_iff_eq.mpr B
 clear B
 have H' := zK H
 clear H
 have u : 0 ≤ (a : Int) := z3
 have x : a < (l.length : Int) := z3
 obtain ⟨a0, D, J⟩ := Kd.at_int i0.out a u x
 cases D
 replace u := eq_true u
 replace x := eq_true x
 have y : 0 ≤ (a : Int) := z3
 have z : a < (q.length : Int) := z3
 obtain ⟨b0, E, L⟩ := Kd.at_int j0.out a y z
 cases E
 replace y := eq_true y
 replace z := eq_true z
 go_wp2
 repeat (go_quiet (fail); try go_wp2)
 go_roundg k1
 case measure => have := m0.out; omega
 case rel => exact ⟨(wrap64 (a + 1)), zR, H', ⟨by have := m0.out; omega⟩, zD⟩
def laws_eqOpt.f (k : Nat) (a : List Int) (l : List Int) (q : List Int) (u : Int) (x : Int) (y : Int) (z : List Int) (A : List Int) (B : List Int) (D : Int) (E : Int) (I : Int) : Option (Bool) := (laws_eqIntS.f k a z).bind fun J => (if J = true then ((laws_eqIntS.f k l A).bind fun L => (if L = true then ((laws_eqIntS.f k q B).bind fun M => (if M = true then (if u = D then (if x = E then (if y = I then (some true) else (some false)) else (some false)) else (some false)) else (some false))) else (some false))) else (some false))
theorem laws_eqOpt.calls (k) (O) (T) (a : List Int) (U) (X) (l : List Int) (a0) (b0) (q : List Int) (D) (E) (I) (c0) (d0) (u : List Int) (e0) (f0) (x : List Int) (g0) (i0) (y : List Int) (J) (L) (M) (r : Bool) (w) (q0 : Kd.C (Kd.int .i64) w O a.length a) (s0 : a.length ≤ T) (t0 : Kd.C (Kd.int .i64) w U l.length l) (x0 : l.length ≤ X) (y0 : Kd.C (Kd.int .i64) w a0 q.length q) (A0 : q.length ≤ b0) (B0 : Kd.C (Kd.int .i64) w c0 u.length u) (C0 : u.length ≤ d0) (D0 : Kd.C (Kd.int .i64) w e0 x.length x) (E0 : x.length ≤ f0) (F0 : Kd.C (Kd.int .i64) w g0 y.length y) (G0 : y.length ≤ i0) (h : laws_eqOpt.f k a l q D E I u x y J L M = some r) :
 Calls Try.prog 13 #[.agg #[.slice O a.length T, .slice U l.length X, .slice a0 q.length b0, .int .i64 D, .int .i64 E, .int .i64 I], .agg #[.slice c0 u.length d0, .slice e0 x.length f0, .slice g0 y.length i0, .int .i64 J, .int .i64 L, .int .i64 M]] w fun e w' => e = .returned (.bool r) ∧ Below w.heap.size w w' := by
 have q2 := Try.underlying30
 have S0 := zK q0
 have T0 := zK s0
 clear q0 s0
 have U0 := zK t0
 have V0 := zK x0
 clear t0 x0
 have X0 := zK y0
 have a1 := zK A0
 clear y0 A0
 have b1 := zK B0
 have c1 := zK C0
 clear B0 C0
 have d1 := zK D0
 have e1 := zK E0
 clear D0 E0
 have f1 := zK F0
 have g1 := zK G0
 clear F0 G0
 have HB := zK (Below.refl w.heap.size w)
 have H : ((laws_eqIntS.f k a u).bind fun n0 => (if n0 = true then ((laws_eqIntS.f k l x).bind fun o0 => (if o0 = true then ((laws_eqIntS.f k q y).bind fun p0 => (if p0 = true then (if D = J then (if E = L then (if I = M then (some true) else (some false)) else (some false)) else (some false)) else (some false))) else (some false))) else (some false))) = some r := h
 clear h
 replace H := z6 H
 obtain ⟨n0, o1, H⟩ := H
 have A3 := zK o1
 clear o1
 rcases zN (n0 = true) with c4 | c4
 replace c4 := Bool.eq_false_iff.mpr c4
 subst c4
 rw [if_neg (show ¬ (false = true) by decide)] at H
 obtain rfl := z5 H
 rotate_left
 subst c4
 rw [if_pos rfl] at H
 replace H := z6 H
 obtain ⟨o0, p1, H⟩ := H
 have A5 := zK p1
 clear p1
 rcases zN (o0 = true) with c6 | c6
 replace c6 := Bool.eq_false_iff.mpr c6
 subst c6
 rw [if_neg (show ¬ (false = true) by decide)] at H
 obtain rfl := z5 H
 rotate_left
 subst c6
 rw [if_pos rfl] at H
 replace H := z6 H
 obtain ⟨p0, q1, H⟩ := H
 have A7 := zK q1
 clear q1
 rcases zN (p0 = true) with c8 | c8
 replace c8 := Bool.eq_false_iff.mpr c8
 subst c8
 rw [if_neg (show ¬ (false = true) by decide)] at H
 obtain rfl := z5 H
 rotate_left
 subst c8
 rw [if_pos rfl] at H
 rcases zN (D = J) with c9 | c9
 rw [if_neg c9] at H
 have s1 := beq_eq_false_iff_ne.mpr c9
 have t1 := bne_iff_ne.mpr c9
 obtain rfl := z5 H
 rotate_left
 rw [if_pos c9] at H
 have s1 := beq_iff_eq.mpr c9
 have t1 := bne_eq_false_iff_eq.mpr c9
 clear c9
 rcases zN (E = L) with A | A
 rw [if_neg A] at H
 have i1 := beq_eq_false_iff_ne.mpr A
 have j1 := bne_iff_ne.mpr A
 obtain rfl := z5 H
 rotate_left
 rw [if_pos A] at H
 have i1 := beq_iff_eq.mpr A
 have j1 := bne_eq_false_iff_eq.mpr A
 clear A
 rcases zN (I = M) with B | B
 rw [if_neg B] at H
 have l1 := beq_eq_false_iff_ne.mpr B
 have m1 := bne_iff_ne.mpr B
 obtain rfl := z5 H
 rotate_left
 rw [if_pos B] at H
 have l1 := beq_iff_eq.mpr B
 have m1 := bne_eq_false_iff_eq.mpr B
 clear B
 obtain rfl := z5 H
 all_goals go_enter Try.func13, Try.ntmps13
 all_goals go_wp2_with (first | ((with_reducible refine gd 2 rfl ?_); refine zJ 2 #[.slice O a.length T, .slice U l.length X, .slice a0 q.length b0, .int .i64 D, .int .i64 E, .int .i64 I] 30 ?_; intro g2 hg y2 hbox hb; have M0 := z8 hb; have N0 := zK (hbox); have O0 := z9 hg; have R0 := z9 hg; revert M0 N0 O0 R0; clear HB; intro HB z i2 j2; clear hb hbox hg) | ((with_reducible refine gd 3 rfl ?_); refine zJ 3 #[.slice c0 u.length d0, .slice e0 x.length f0, .slice g0 y.length i0, .int .i64 J, .int .i64 L, .int .i64 M] 30 ?_; intro l2 hg A2 hbox hb; have M0 := z7 z hb; have N0 := z8 hb; have O0 := zK (hbox); have R0 := z9 hg; have d2 := z9 hg; have e2 := zHH hg z; have f2 := zGG hg z; revert M0 N0 O0 R0 d2 e2 f2; clear z HB; intro z HB n1 m2 n2 l0 m0; clear hb hbox hg; have o2 := l0.out; have p2 := m0.out; obtain ⟨x1, y1, A1, B1, C1, D1, E1, F1, G1, I1, J1, L1⟩ := zc6 z; obtain ⟨M1, N1, O1, R1, S1, T1, U1, V1, X1, a2, b2, c2⟩ := zc6 n1) | ((with_reducible refine gc 14 rfl ?_); refine zF 9 Try.func14 #[.slice O a.length T, .slice c0 u.length d0] rfl zL ?_; refine (laws_eqIntS.calls k _ _ a _ _ u _ _ (zS S0) T0.out (zS b1) c1.out A3.out).mono ?_; rintro e w' ⟨rfl, ⟨nd, rfl⟩⟩; refine ⟨_, rfl, ?_⟩) | ((with_reducible refine gc 14 rfl ?_); refine zF 15 Try.func14 #[.slice U l.length X, .slice e0 x.length f0] rfl zL ?_; refine (laws_eqIntS.calls k _ _ l _ _ x _ _ (zS U0) V0.out (zS d1) e1.out A5.out).mono ?_; rintro e w' ⟨rfl, ⟨nd, rfl⟩⟩; refine ⟨_, rfl, ?_⟩) | ((with_reducible refine gc 14 rfl ?_); refine zF 21 Try.func14 #[.slice a0 q.length b0, .slice g0 y.length i0] rfl zL ?_; refine (laws_eqIntS.calls k _ _ q _ _ y _ _ (zS X0) a1.out (zS f1) g1.out A7.out).mono ?_; rintro e w' ⟨rfl, ⟨nd, rfl⟩⟩; refine ⟨_, rfl, ?_⟩))
 all_goals go_ret
 all_goals exact ⟨zE, zB⟩
def laws_markIntS.l0 : Nat → List Int → Int → Int → Option (Int × List Int)
 | 0, _, _, _ => none
 | k + 1, l, q, a => if a < (l.length : Int) then (if 0 ≤ a then (laws_markIntS.l0 k (l.set (a : Int).toNat q) (wrap64 (q + 1)) (wrap64 (a + 1))) else (none)) else (some (q, l))
def laws_markIntS.f (k : Nat) (a : List Int) (l : Int) : Option (Int × List Int) := laws_markIntS.l0 k a l 0
theorem laws_markIntS.calls (k) (u : Nat → Prop) (u9000_ : Value) (B : List Int) (E) (r1) (r2 : List Int) (w0 w : World) (hB : Below w0.heap.size w0 w) (a0 : Kd.R (Kd.int .i64) 3 w w0.heap.size u u9000_ B) (h : laws_markIntS.f k B E = some (r1, r2)) :
 Calls Try.prog 16 #[u9000_, .int .i64 E] w fun e w' => e = .returned (.int .i64 r1) ∧ Kd.R (Kd.int .i64) 3 w' w0.heap.size (fun k_ => (u k_ ∨ w.heap.size ≤ k_)) u9000_ r2 ∧ Below w0.heap.size w0 w' ∧ Kept w w' (fun k_ => u k_) := by
 have b0 := zK (show Kd.R (Kd.int .i64) 3 w w0.heap.size (fun k_ => (u k_ ∨ w.heap.size ≤ k_)) u9000_ B from Kd.R_mono a0 (fun k_ hk => (.inl hk)))
 have HK := zK (Kept.refl w (fun k_ => u k_))
 have HW0 := zK hB.size
 have HB := zK hB
 clear hB
 have H : (laws_markIntS.l0 k B E 0) = some (r1, r2) := h
 clear h
 have H' := zK H
 clear H
 go_enter Try.func16, Try.ntmps16
 go_wp2
 go_loopg [1, 5] k (fun kq v1 v5 w' => ∃ (x : List Int) (q : Int) (a : Int), v1 = .int .i64 q ∧ v5 = .int .i64 a ∧ Aside0 (laws_markIntS.l0 kq x q a = some (r1, r2)) ∧ Aside0 (kq ≤ k) ∧ Aside0 (Kd.R (Kd.int .i64) 3 w' w0.heap.size (fun k_ => (u k_ ∨ w.heap.size ≤ k_)) u9000_ x) ∧ Aside0 (Kept w w' (fun k_ => u k_)) ∧ Aside0 (Below w0.heap.size w0 w'))
 case atStart => exact ⟨(B), (E), (0), zR, zR, H', ⟨Nat.le_refl _⟩, ⟨zkR b0⟩, ⟨by repeat (first | (with_reducible first | exact HK.out | apply Kept.alloc | apply Kept.drewN | apply Kept.drew) | exact HK.out)⟩, ⟨zB⟩⟩
 clear H'
 try clear c1
 try clear p2
 obtain ⟨x, q, a, rfl, rfl, HA, J, l, HK, HB⟩ := hrel
 rcases gk with _ | k1
 · exact absurd HA.out (by simp [laws_markIntS.l0])
 have H := HA.out
 clear HA
 simp only [laws_markIntS.l0] at H
 by_cases A : a < (x.length : Int)
 rotate_left
 · rw [if_neg A] at H
   have O := z2 A
   clear A
   simp only [Option.some.injEq, Prod.mk.injEq] at H
   obtain ⟨rfl, rfl⟩ := H
   obtain ⟨n0, o0, c0⟩ := Kd.R_slice l.out
   subst c0
   go_wp2
   go_ret
   exact ⟨zE, zkR l, zB, by repeat (first | (with_reducible first | exact HK.out | apply Kept.alloc | apply Kept.drewN | apply Kept.drew) | exact HK.out)⟩
 rw [if_pos A] at H
 have O := z1 A
 clear A
 by_cases I : 0 ≤ a
 rotate_left
 · rw [if_neg I] at H
   exact absurd H (by simp)
 rw [if_pos I] at H
 have m0 := z1 I
 clear I
 obtain ⟨z, y⟩ : ∃ y_ : List Int, y_ = (x.set (a : Int).toNat q) := ⟨_, rfl⟩
 replace H : (laws_markIntS.l0 k1 z (wrap64 (q + 1)) (wrap64 (a + 1))) = some (r1, r2) := by first | (rw [y]; with_reducible exact H) | (have D := (Option.bind_some _ _).symm.trans H; rw [y]; with_reducible exact D) | (have D := (Option.bind_some _ _).symm.trans H; with_reducible exact D) | with_reducible exact H | (rw [y]; exact H) | exact H
 have Ny369 := zK y
 clear y
 have H' := zK H
 clear H
 obtain ⟨p0, d0, e0⟩ := Kd.R_slice l.out
 subst e0
 have T : 0 ≤ (a : Int) := z3
 have U : (a : Int) < ((x.length : Int) : Int) := z3
 obtain ⟨go5, q0, L, M, gl5, cl5, HG5⟩ := Kd.R_form l.out (by omega)
 (first | cases L | (injection L with ea_ en_ ec_; (first | subst ea_ | (injection ea_ with ea_; subst ea_)); subst ec_; clear en_))
 have GB5 := zK M
 have GG5 := zK HG5
 clear M gl5 HG5
 have HMgo5 := zK (show (u go5 ∨ w.heap.size ≤ go5) from (l.out.1 _ rfl))
 obtain ⟨j0, hf5_0⟩ := Kd.R_celln 0 l.out (a : Int) T U
 replace T := eq_true T
 replace U := eq_true U
 have HP7 := Kd.R_putg l.out (a : Int) q
 go_wp2_with (first | ((with_reducible refine gate_store (t := 3) (p := 15) rfl ?_); refine store_event (t := 3) (p := 15) (v := ?vo_w8) (w1 := (wr.setCell ⟨go5, (a : Int).toNat, none⟩ (.int .i64 q))) ?hg ?ho ?hn ?hr ?_; (case ho => rfl); (case hg => rfl); (case hn => rfl); (case hr => first | (go_simp; done) | (go_simp; rfl)); intro X hw; have hg : wr.grownBy X (some go5) := (by rw [hw]; exact HP7.2); have hp_ : Kd.R (Kd.int .i64) 3 X w0.heap.size (fun k_ => (u k_ ∨ w.heap.size ≤ k_)) (.slice (some ⟨go5, 0, none⟩) x.length d0) z := (by rw [hw, Ny369.out]; exact HP7.1); clear HP7; have f0 := zK (hp_); have g0 := zK ((by rw [hw]; exact zs (HB.out) GB5.out : Below w0.heap.size w0 X)); have i0 := zK (Kept.of_grown (S := (fun k_ => u k_)) hg (by repeat (first | (with_reducible first | exact HK.out | apply Kept.alloc | apply Kept.drewN | apply Kept.drew) | exact HK.out)) (fun k_ e_ => (l.out.1 k_ e_))); revert f0 g0 i0; clear l HB HK; intro l HB HK; clear hg hw hp_))
 go_roundg k1
 case measure => have := J.out; omega
 case rel => exact ⟨(z), (wrap64 (q + 1)), (wrap64 (a + 1)), zR, zR, H', ⟨by have := J.out; omega⟩, ⟨zkR l⟩, ⟨by repeat (first | (with_reducible first | exact HK.out | apply Kept.alloc | apply Kept.drewN | apply Kept.drew) | exact HK.out)⟩, ⟨zB⟩⟩
def laws_markOpt.f (k : Nat) (u : List Int) (x : List Int) (y : List Int) (z : Int) (A : Int) (B : Int) (D : Int) : Option (Int × List Int × List Int × List Int) := (laws_markIntS.f k u D).bind fun a => ((laws_markIntS.f k x a.1).bind fun l => ((laws_markIntS.f k y l.1).bind fun q => (some (q.1, a.2, l.2, q.2))))
theorem laws_markOpt.calls (k) (a : Nat → Prop) (u9000_ : Value) (D : List Int) (l : Nat → Prop) (u9001_ : Value) (B : List Int) (q : Nat → Prop) (u9002_ : Value) (A : List Int) (q0) (s0) (t0) (a1) (r1) (r2 : List Int) (r3 : List Int) (r4 : List Int) (w0 w : World) (hB : Below w0.heap.size w0 w) (i0 : Kd.R (Kd.int .i64) 3 w w0.heap.size a u9000_ D) (hp0_0_0_1 : ∀ k_, a k_ → ¬ l k_) (hp0_0_0_2 : ∀ k_, a k_ → ¬ q k_) (j0 : Kd.R (Kd.int .i64) 3 w w0.heap.size l u9001_ B) (hp0_1_0_0 : ∀ k_, l k_ → ¬ a k_) (hp0_1_0_2 : ∀ k_, l k_ → ¬ q k_) (l0 : Kd.R (Kd.int .i64) 3 w w0.heap.size q u9002_ A) (hp0_2_0_0 : ∀ k_, q k_ → ¬ a k_) (hp0_2_0_1 : ∀ k_, q k_ → ¬ l k_) (h : laws_markOpt.f k D B A q0 s0 t0 a1 = some (r1, r2, r3, r4)) :
 Calls Try.prog 15 #[.agg #[u9000_, u9001_, u9002_, .int .i64 q0, .int .i64 s0, .int .i64 t0], .int .i64 a1] w fun e w' => e = .returned (.int .i64 r1) ∧ Kd.R (Kd.int .i64) 3 w' w0.heap.size (fun k_ => ((a k_ ∨ l k_ ∨ q k_) ∨ w.heap.size ≤ k_)) u9000_ r2 ∧ Kd.R (Kd.int .i64) 3 w' w0.heap.size (fun k_ => ((a k_ ∨ l k_ ∨ q k_) ∨ w.heap.size ≤ k_)) u9001_ r3 ∧ Kd.R (Kd.int .i64) 3 w' w0.heap.size (fun k_ => ((a k_ ∨ l k_ ∨ q k_) ∨ w.heap.size ≤ k_)) u9002_ r4 ∧ Below w0.heap.size w0 w' ∧ Kept w w' (fun k_ => a k_ ∨ l k_ ∨ q k_) := by
 have N1 := Try.underlying30
 have u := zK (show Kd.R (Kd.int .i64) 3 w w0.heap.size (fun k_ => ((a k_ ∨ l k_ ∨ q k_) ∨ w.heap.size ≤ k_) ∧ some k_ ≠ (u9001_ : Value).ownBlock ∧ some k_ ≠ (u9002_ : Value).ownBlock) u9000_ D from Kd.R_mono i0 (fun k_ hk => ⟨(.inl (.inl hk)), fun e_ => hp0_0_0_1 k_ hk (j0.1 k_ e_.symm), fun e_ => hp0_0_0_2 k_ hk (l0.1 k_ e_.symm)⟩))
 have x := zK (show Kd.R (Kd.int .i64) 3 w w0.heap.size (fun k_ => ((a k_ ∨ l k_ ∨ q k_) ∨ w.heap.size ≤ k_) ∧ some k_ ≠ (u9000_ : Value).ownBlock ∧ some k_ ≠ (u9002_ : Value).ownBlock) u9001_ B from Kd.R_mono j0 (fun k_ hk => ⟨(.inl (.inr (.inl hk))), fun e_ => hp0_1_0_0 k_ hk (i0.1 k_ e_.symm), fun e_ => hp0_1_0_2 k_ hk (l0.1 k_ e_.symm)⟩))
 have y := zK (show Kd.R (Kd.int .i64) 3 w w0.heap.size (fun k_ => ((a k_ ∨ l k_ ∨ q k_) ∨ w.heap.size ≤ k_) ∧ some k_ ≠ (u9000_ : Value).ownBlock ∧ some k_ ≠ (u9001_ : Value).ownBlock) u9002_ A from Kd.R_mono l0 (fun k_ hk => ⟨(.inl (.inr (.inr hk))), fun e_ => hp0_2_0_0 k_ hk (i0.1 k_ e_.symm), fun e_ => hp0_2_0_1 k_ hk (j0.1 k_ e_.symm)⟩))
 have HK := zK (Kept.refl w (fun k_ => a k_ ∨ l k_ ∨ q k_))
 have HW0 := zK hB.size
 have HB := zK hB
 clear hB
 have H : ((laws_markIntS.f k D a1).bind fun y0 => ((laws_markIntS.f k B y0.1).bind fun I => ((laws_markIntS.f k A I.1).bind fun E => (some (E.1, y0.2, I.2, E.2))))) = some (r1, r2, r3, r4) := h
 clear h
 replace H := z6 H
 obtain ⟨⟨m0, n0⟩, E0, H⟩ := H
 replace H : ((laws_markIntS.f k B m0).bind fun I => ((laws_markIntS.f k A I.1).bind fun E => (some (E.1, n0, I.2, E.2)))) = some (r1, r2, r3, r4) := H
 have A3 := zK E0
 clear E0
 replace H := z6 H
 obtain ⟨⟨o0, x0⟩, F0, H⟩ := H
 replace H : ((laws_markIntS.f k A o0).bind fun E => (some (E.1, n0, x0, E.2))) = some (r1, r2, r3, r4) := H
 have A4 := zK F0
 clear F0
 replace H := z6 H
 obtain ⟨⟨C0, D0⟩, G0, H⟩ := H
 replace H : (some (C0, n0, x0, D0)) = some (r1, r2, r3, r4) := H
 have A5 := zK G0
 clear G0
 simp only [Option.some.injEq, Prod.mk.injEq] at H
 obtain ⟨rfl, rfl, rfl, rfl⟩ := H
 obtain ⟨J, L, G1⟩ := Kd.R_slice u.out
 subst G1
 obtain ⟨M, O, I1⟩ := Kd.R_slice x.out
 subst I1
 obtain ⟨T, U, J1⟩ := Kd.R_slice y.out
 subst J1
 go_enter Try.func15, Try.ntmps15
 go_wp2_with (first | ((with_reducible refine gd 2 rfl ?_); refine zJ 2 #[.slice J D.length L, .slice M B.length O, .slice T A.length U, .int .i64 q0, .int .i64 s0, .int .i64 t0] 30 ?_; intro A0 hg w9 hbox hb; have b0 := zK (Kd.R_below (zkR u) hb); have c0 := zK (Kd.R_below (zkR x) hb); have d0 := zK (Kd.R_below (zkR y) hb); have e0 := zK (Kept.below (S := (fun k_ => a k_ ∨ l k_ ∨ q k_)) (by repeat (first | (with_reducible first | exact HK.out | apply Kept.alloc | apply Kept.drewN | apply Kept.drew) | exact HK.out)) hb); have f0 := z8 hb; have g0 := zK (hbox); have L1 := zK ((by rw [hg]; exact (by first | exact HK.out.1 | exact (show Kept w _ (fun k_ => a k_ ∨ l k_ ∨ q k_) from by repeat (first | (with_reducible first | exact HK.out | apply Kept.alloc | apply Kept.drewN | apply Kept.drew) | exact HK.out)).1) : w.heap.size ≤ A0)); have M1 := zK ((by rw [hg]; exact (zz zB) : w0.heap.size ≤ A0)); revert b0 c0 d0 e0 f0 g0 L1 M1; clear u x y HK HB; intro u x y HK HB z a0 p0; clear hb hbox hg; obtain ⟨I0, J0, L0, M0, N0, O0, R0, S0, T0, U0, V0, X0⟩ := zc6 z) | ((with_reducible refine gc 16 rfl ?_); refine zF 8 Try.func16 #[.slice J D.length L, .int .i64 a1] rfl zL ?_; (with_reducible refine (laws_markIntS.calls k (fun k_ => some k_ = (.slice J D.length L : Value).ownBlock) (.slice J D.length L) D a1 m0 n0 w0 _ ?side1 ?side2 A3.out).mono ?_); (case side1 => repeat (first | (with_reducible first | exact HB.out | apply zb | apply zw | apply ze | refine zs ?_ p0.out) | exact HB.out)); (case side2 => exact Kd.R_tight rfl u.out); rintro e T1 ⟨rfl, X, hb, hkp⟩; refine ⟨_, rfl, ?_⟩; have b0 := zK (Kd.R_reok rfl X (fun k_ e_ => u.out.1 k_ e_)); have c0 := zK (Kd.R_mono (ok' := fun k_ => ((a k_ ∨ l k_ ∨ q k_) ∨ w.heap.size ≤ k_) ∧ some k_ ≠ (.slice J D.length L : Value).ownBlock ∧ some k_ ≠ (.slice T A.length U : Value).ownBlock) (Kd.R_keptB (x.out) hkp (fun k_ hk_ hs_ => (hk_.2.1) hs_)) (fun k_ hk_ => ⟨hk_.1.1, hk_.1.2.1, hk_.1.2.2⟩)); have d0 := zK (Kd.R_mono (ok' := fun k_ => ((a k_ ∨ l k_ ∨ q k_) ∨ w.heap.size ≤ k_) ∧ some k_ ≠ (.slice J D.length L : Value).ownBlock ∧ some k_ ≠ (.slice M B.length O : Value).ownBlock) (Kd.R_keptB (y.out) hkp (fun k_ hk_ hs_ => (hk_.2.1) hs_)) (fun k_ hk_ => ⟨hk_.1.1, hk_.1.2.1, hk_.1.2.2⟩)); have e0 := zK (blk_kept (zM z) hkp (fun hs_ => (fun e_ => (Kd.R_ne u.out z.out (by decide)) e_) hs_)); have f0 := zK (Kept.then_ (S := (fun k_ => a k_ ∨ l k_ ∨ q k_)) (by repeat (first | (with_reducible first | exact HK.out | apply Kept.alloc | apply Kept.drewN | apply Kept.drew | refine Kept.setCell ?_ (.inr a0.out) _) | exact HK.out)) hkp (fun k_ hs_ => (fun e_ => (u.out.1 k_ e_.symm).1) hs_)); have g0 := zK (hb); revert b0 c0 d0 e0 f0 g0; clear u x y z HK HB; intro u x y z HK HB; (try clear hkp); (try clear X); obtain ⟨b1, c1, d1, e1, f1, g1, i1, j1, l1, m1, n1, o1⟩ := zc6 z) | ((with_reducible refine gc 16 rfl ?_); refine zF 12 Try.func16 #[.slice M B.length O, .int .i64 m0] rfl zL ?_; (with_reducible refine (laws_markIntS.calls k (fun k_ => some k_ = (.slice M B.length O : Value).ownBlock) (.slice M B.length O) B m0 o0 x0 w0 _ ?side1 ?side2 A4.out).mono ?_); (case side1 => repeat (first | (with_reducible first | exact HB.out | apply zb | apply zw | apply ze | refine zs ?_ p0.out) | exact HB.out)); (case side2 => exact Kd.R_tight rfl x.out); rintro e U1 ⟨rfl, X, hb, hkp⟩; refine ⟨_, rfl, ?_⟩; have b0 := zK (Kd.R_mono (ok' := fun k_ => ((a k_ ∨ l k_ ∨ q k_) ∨ w.heap.size ≤ k_) ∧ some k_ ≠ (.slice M B.length O : Value).ownBlock ∧ some k_ ≠ (.slice T A.length U : Value).ownBlock) (Kd.R_keptB (u.out) hkp (fun k_ hk_ hs_ => (hk_.2.1) hs_)) (fun k_ hk_ => ⟨hk_.1.1, hk_.1.2.1, hk_.1.2.2⟩)); have c0 := zK (Kd.R_reok rfl X (fun k_ e_ => x.out.1 k_ e_)); have d0 := zK (Kd.R_mono (ok' := fun k_ => ((a k_ ∨ l k_ ∨ q k_) ∨ w.heap.size ≤ k_) ∧ some k_ ≠ (.slice J D.length L : Value).ownBlock ∧ some k_ ≠ (.slice M B.length O : Value).ownBlock) (Kd.R_keptB (y.out) hkp (fun k_ hk_ hs_ => (hk_.2.2) hs_)) (fun k_ hk_ => ⟨hk_.1.1, hk_.1.2.1, hk_.1.2.2⟩)); have e0 := zK (blk_kept (zM z) hkp (fun hs_ => (fun e_ => (Kd.R_ne x.out z.out (by decide)) e_) hs_)); have f0 := zK (Kept.then_ (S := (fun k_ => a k_ ∨ l k_ ∨ q k_)) (by repeat (first | (with_reducible first | exact HK.out | apply Kept.alloc | apply Kept.drewN | apply Kept.drew | refine Kept.setCell ?_ (.inr a0.out) _) | exact HK.out)) hkp (fun k_ hs_ => (fun e_ => (x.out.1 k_ e_.symm).1) hs_)); have g0 := zK (hb); revert b0 c0 d0 e0 f0 g0; clear u x y z HK HB; intro u x y z HK HB; (try clear hkp); (try clear X); obtain ⟨p1, q1, s1, t1, x1, y1, A1, B1, C1, D1, E1, F1⟩ := zc6 z) | ((with_reducible refine gc 16 rfl ?_); refine zF 16 Try.func16 #[.slice T A.length U, .int .i64 o0] rfl zL ?_; (with_reducible refine (laws_markIntS.calls k (fun k_ => some k_ = (.slice T A.length U : Value).ownBlock) (.slice T A.length U) A o0 C0 D0 w0 _ ?side1 ?side2 A5.out).mono ?_); (case side1 => repeat (first | (with_reducible first | exact HB.out | apply zb | apply zw | apply ze | refine zs ?_ p0.out) | exact HB.out)); (case side2 => exact Kd.R_tight rfl y.out); rintro e V1 ⟨rfl, X, hb, hkp⟩; refine ⟨_, rfl, ?_⟩; have b0 := zK (Kd.R_mono (ok' := fun k_ => ((a k_ ∨ l k_ ∨ q k_) ∨ w.heap.size ≤ k_) ∧ some k_ ≠ (.slice M B.length O : Value).ownBlock ∧ some k_ ≠ (.slice T A.length U : Value).ownBlock) (Kd.R_keptB (u.out) hkp (fun k_ hk_ hs_ => (hk_.2.2) hs_)) (fun k_ hk_ => ⟨hk_.1.1, hk_.1.2.1, hk_.1.2.2⟩)); have c0 := zK (Kd.R_mono (ok' := fun k_ => ((a k_ ∨ l k_ ∨ q k_) ∨ w.heap.size ≤ k_) ∧ some k_ ≠ (.slice J D.length L : Value).ownBlock ∧ some k_ ≠ (.slice T A.length U : Value).ownBlock) (Kd.R_keptB (x.out) hkp (fun k_ hk_ hs_ => (hk_.2.2) hs_)) (fun k_ hk_ => ⟨hk_.1.1, hk_.1.2.1, hk_.1.2.2⟩)); have d0 := zK (Kd.R_reok rfl X (fun k_ e_ => y.out.1 k_ e_)); have e0 := zK (blk_kept (zM z) hkp (fun hs_ => (fun e_ => (Kd.R_ne y.out z.out (by decide)) e_) hs_)); have f0 := zK (Kept.then_ (S := (fun k_ => a k_ ∨ l k_ ∨ q k_)) (by repeat (first | (with_reducible first | exact HK.out | apply Kept.alloc | apply Kept.drewN | apply Kept.drew | refine Kept.setCell ?_ (.inr a0.out) _) | exact HK.out)) hkp (fun k_ hs_ => (fun e_ => (y.out.1 k_ e_.symm).1) hs_)); have g0 := zK (hb); revert b0 c0 d0 e0 f0 g0; clear u x y z HK HB; intro u x y z HK HB; (try clear hkp); (try clear X)))
 go_ret
 exact ⟨zE, Kd.R_mono (zlR u.out) (fun _ hk => hk.1), Kd.R_mono (zlR x.out) (fun _ hk => hk.1), Kd.R_mono (zlR y.out) (fun _ hk => hk.1), zB, by repeat (first | (with_reducible first | exact HK.out | apply Kept.alloc | apply Kept.drewN | apply Kept.drew | refine Kept.setCell ?_ (.inr a0.out) _) | exact HK.out)⟩
def laws_heldIntS.l0 : Nat → List Int → Int → Int → Option (Int)
 | 0, _, _, _ => none
 | k + 1, l, q, a => if a < (l.length : Int) then (if 0 ≤ a then (if (rd l a) = q then (laws_heldIntS.l0 k l (wrap64 (q + 1)) (wrap64 (a + 1))) else (some (-1))) else (none)) else (some q)
def laws_heldIntS.f (k : Nat) (a : List Int) (l : Int) : Option (Int) := laws_heldIntS.l0 k a l 0
theorem laws_heldIntS.calls (k) (A0) (c0) (u : List Int) (D) (r) (w) (J : Kd.C (Kd.int .i64) w A0 u.length u) (L : u.length ≤ c0) (h : laws_heldIntS.f k u D = some r) :
 Calls Try.prog 53 #[.slice A0 u.length c0, .int .i64 D] w fun e w' => e = .returned (.int .i64 r) ∧ Drawn0 w w' := by
 have M := zK J
 have e0 := zK L
 clear J L
 have H : (laws_heldIntS.l0 k u D 0) = some r := h
 clear h
 have H' := zK H
 clear H
 go_enter Try.func53, Try.ntmps53
 go_wp2
 go_loopg [1, 5] k (fun kq v1 v5 w' => ∃ (x : Int) (a : Int), v1 = .int .i64 x ∧ v5 = .int .i64 a ∧ Aside0 (laws_heldIntS.l0 kq u x a = some r) ∧ Aside0 (kq ≤ k) ∧ Drawn0 w w')
 case atStart => exact ⟨(D), (0), zR, zR, H', ⟨Nat.le_refl _⟩, zD⟩
 clear H'
 try clear p2
 obtain ⟨x, a, rfl, rfl, HA, O, ⟨m1, rfl⟩⟩ := hrel
 rcases gk with _ | k1
 · exact absurd HA.out (by simp [laws_heldIntS.l0])
 have H := HA.out
 clear HA
 simp only [laws_heldIntS.l0] at H
 by_cases A : a < (u.length : Int)
 rotate_left
 · rw [if_neg A] at H
   have T := z2 A
   clear A
   obtain rfl := z5 H
   go_wp2
   go_ret
   exact ⟨zR, zD⟩
 rw [if_pos A] at H
 have T := z1 A
 clear A
 by_cases E : 0 ≤ a
 rotate_left
 · rw [if_neg E] at H
   exact absurd H (by simp)
 rw [if_pos E] at H
 have d0 := z1 E
 clear E
 by_cases y : (rd u a) = x
 rotate_left
 · rw [if_neg y] at H
   have U := beq_eq_false_iff_ne.mpr y
   have X := bne_iff_ne.mpr y
   obtain rfl := z5 H
   have l : 0 ≤ (a : Int) := z3
   have q : a < (u.length : Int) := z3
   obtain ⟨I, z, B⟩ := Kd.at_int M.out a l q
   cases z
   replace l := eq_true l
   replace q := eq_true q
   go_wp2
   go_ret
   exact ⟨zR, zD⟩
 rw [if_pos y] at H
 have U := beq_iff_eq.mpr y
 have X := bne_eq_false_iff_eq.mpr y
 clear y
 have H' := zK H
 clear H
 have l : 0 ≤ (a : Int) := z3
 have q : a < (u.length : Int) := z3
 obtain ⟨I, z, B⟩ := Kd.at_int M.out a l q
 cases z
 replace l := eq_true l
 replace q := eq_true q
 go_wp2
 go_roundg k1
 case measure => have := O.out; omega
 case rel => exact ⟨(wrap64 (x + 1)), (wrap64 (a + 1)), zR, zR, H', ⟨by have := O.out; omega⟩, zD⟩
def laws_heldOpt.f (k : Nat) (u : List Int) (x : List Int) (y : List Int) (z : Int) (A : Int) (B : Int) (D : Int) : Option (Int) := (laws_heldIntS.f k u D).bind fun a => (if a < 0 then (some (-1)) else ((laws_heldIntS.f k x a).bind fun l => (if l < 0 then (some (-1)) else ((laws_heldIntS.f k y l).bind fun q => (if q < 0 then (some (-1)) else (some q))))))
theorem laws_heldOpt.calls (k) (A) (B) (a : List Int) (D) (E) (l : List Int) (I) (J) (q : List Int) (L) (M) (O) (a1) (r) (w) (T : Kd.C (Kd.int .i64) w A a.length a) (U : a.length ≤ B) (X : Kd.C (Kd.int .i64) w D l.length l) (a0 : l.length ≤ E) (b0 : Kd.C (Kd.int .i64) w I q.length q) (c0 : q.length ≤ J) (h : laws_heldOpt.f k a l q L M O a1 = some r) :
 Calls Try.prog 17 #[.agg #[.slice A a.length B, .slice D l.length E, .slice I q.length J, .int .i64 L, .int .i64 M, .int .i64 O], .int .i64 a1] w fun e w' => e = .returned (.int .i64 r) ∧ Below w.heap.size w w' := by
 have c1 := Try.underlying30
 have i0 := zK T
 have j0 := zK U
 clear T U
 have l0 := zK X
 have m0 := zK a0
 clear X a0
 have n0 := zK b0
 have o0 := zK c0
 clear b0 c0
 have HB := zK (Below.refl w.heap.size w)
 have H : ((laws_heldIntS.f k a a1).bind fun u => (if u < 0 then (some (-1)) else ((laws_heldIntS.f k l u).bind fun x => (if x < 0 then (some (-1)) else ((laws_heldIntS.f k q x).bind fun y => (if y < 0 then (some (-1)) else (some y))))))) = some r := h
 clear h
 replace H := z6 H
 obtain ⟨u, s0, H⟩ := H
 have A3 := zK s0
 clear s0
 by_cases c4 : u < 0
 rw [if_pos c4] at H
 have x0 := z1 c4
 clear c4
 obtain rfl := z5 H
 rotate_left
 rw [if_neg c4] at H
 have x0 := z2 c4
 clear c4
 replace H := z6 H
 obtain ⟨x, t0, H⟩ := H
 have A7 := zK t0
 clear t0
 by_cases c8 : x < 0
 rw [if_pos c8] at H
 have y0 := z1 c8
 clear c8
 obtain rfl := z5 H
 rotate_left
 rw [if_neg c8] at H
 have y0 := z2 c8
 clear c8
 replace H := z6 H
 obtain ⟨y, g0, H⟩ := H
 have O0 := zK g0
 clear g0
 by_cases z : y < 0
 rw [if_pos z] at H
 have p0 := z1 z
 clear z
 obtain rfl := z5 H
 rotate_left
 rw [if_neg z] at H
 have p0 := z2 z
 clear z
 obtain rfl := z5 H
 all_goals go_enter Try.func17, Try.ntmps17
 all_goals go_wp2_with (first | ((with_reducible refine gd 2 rfl ?_); refine zJ 2 #[.slice A a.length B, .slice D l.length E, .slice I q.length J, .int .i64 L, .int .i64 M, .int .i64 O] 30 ?_; intro V0 hg f1 hbox hb; have R0 := z8 hb; have S0 := zK (hbox); have T0 := z9 hg; have U0 := z9 hg; revert R0 S0 T0 U0; clear HB; intro HB q0 X0 b1; clear hb hbox hg; obtain ⟨A0, B0, C0, D0, E0, F0, G0, I0, J0, L0, M0, N0⟩ := zc6 q0) | ((with_reducible refine gc 53 rfl ?_); refine zF 8 Try.func53 #[.slice A a.length B, .int .i64 a1] rfl zL ?_; refine (laws_heldIntS.calls k _ _ a a1 u _ (zS i0) j0.out A3.out).mono ?_; rintro e w' ⟨rfl, ⟨nd, rfl⟩⟩; refine ⟨_, rfl, ?_⟩) | ((with_reducible refine gc 53 rfl ?_); refine zF 14 Try.func53 #[.slice D l.length E, .int .i64 u] rfl zL ?_; refine (laws_heldIntS.calls k _ _ l u x _ (zS l0) m0.out A7.out).mono ?_; rintro e w' ⟨rfl, ⟨nd, rfl⟩⟩; refine ⟨_, rfl, ?_⟩) | ((with_reducible refine gc 53 rfl ?_); refine zF 20 Try.func53 #[.slice I q.length J, .int .i64 x] rfl zL ?_; refine (laws_heldIntS.calls k _ _ q x y _ (zS n0) o0.out O0.out).mono ?_; rintro e w' ⟨rfl, ⟨nd, rfl⟩⟩; refine ⟨_, rfl, ?_⟩))
 all_goals go_ret
 all_goals exact ⟨zE, zB⟩
end Go.Proofs.Ytodfhokndnmdoaa.PFnExactStepOpt
