-- Printed out of the translation by this session's own turned copy of a printer; Lean checks it.
import Derived.Test.YtodfhokndnmdoaaPFnFactorx0
namespace Go.Proofs.Ytodfhokndnmdoaa.PFnFactor
open Go.RowKit Go.Proofs.YtodfhokndnmdoaaW.PrintWords Go.Proofs.YtodfhokndnmdoaaW.PrintLast Go.Proofs.YtodfhokndnmdoaaW.PrintMore
attribute [local go_sem] max2_int min2_int max_two min_two max_three min_three max_four min_four
set_option linter.unusedVariables false
set_option linter.unusedSimpArgs false
set_option maxHeartbeats 8000000
set_option maxRecDepth 100000
def impl_within.f (a : Int) (l : Int) (q : Int) : Option (Bool) := if a ≥ l then (some (decide (a ≤ q))) else (some false)
theorem impl_within.calls (l) (q) (u) (r : Bool) (w) (h : impl_within.f l q u = some r) :
 Calls Try.prog 62 #[.int .i64 l, .int .i64 q, .int .i64 u] w fun e w' => e = .returned (.bool r) ∧ Drawn0 w w' := by
 have H : (if l ≥ q then (some (decide (l ≤ u))) else (some false)) = some r := h
 clear h
 by_cases a : l ≥ q
 · rw [if_pos a] at H
   have x := z1 a
   clear a
   obtain rfl := z5 H
   go_enter Try.func62, Try.ntmps62
   go_wp2
   go_ret
   exact ⟨zR, zD⟩
 rw [if_neg a] at H
 have x := z2 a
 clear a
 obtain rfl := z5 H
 go_enter Try.func62, Try.ntmps62
 go_wp2
 go_ret
 exact ⟨zR, zD⟩
def impl_allWithin.l0 : Nat → Int → Int → List Int → Int → Int → Option (Bool)
 | 0, _, _, _, _, _ => none
 | k + 1, x, y, q, l, a => if a < l then (if 0 ≤ a then (if a < (q.length : Int) then ((impl_within.f (rd q a) x y).bind fun u => (if u = true then (impl_allWithin.l0 k x y q l (wrap64 (a + 1))) else (some false))) else (none)) else (none)) else (some true)
def impl_allWithin.f (k : Nat) (a : List Int) (l : Int) (q : Int) : Option (Bool) := impl_allWithin.l0 k l q a (a.length : Int) 0
theorem impl_allWithin.calls (k) (A0) (c0) (l : List Int) (x) (y) (r : Bool) (w) (L : Kd.C (Kd.int .i64) w A0 l.length l) (M : l.length ≤ c0) (h : impl_allWithin.f k l x y = some r) :
 Calls Try.prog 61 #[.slice A0 l.length c0, .int .i64 x, .int .i64 y] w fun e w' => e = .returned (.bool r) ∧ Drawn0 w w' := by
 have O := zK L
 have i0 := zK M
 clear L M
 have H : (impl_allWithin.l0 k x y l (l.length : Int) 0) = some r := h
 clear h
 have H' := zK H
 clear H
 go_enter Try.func61, Try.ntmps61
 go_wp2
 go_loopg [11] k (fun kq v11 w' => ∃ (a : Int), v11 = .int .i64 a ∧ Aside0 (impl_allWithin.l0 kq x y l (l.length : Int) a = some r) ∧ Aside0 (kq ≤ k) ∧ Drawn0 w w')
 case atStart => exact ⟨(0), zR, H', ⟨Nat.le_refl _⟩, zD⟩
 clear H'
 try clear p2
 obtain ⟨a, rfl, HA, T, ⟨m1, rfl⟩⟩ := hrel
 rcases gk with _ | k1
 · exact absurd HA.out (by simp [impl_allWithin.l0])
 have H := HA.out
 clear HA
 simp only [impl_allWithin.l0] at H
 by_cases A : a < (l.length : Int)
 rotate_left
 · rw [if_neg A] at H
   have X := z2 A
   clear A
   obtain rfl := z5 H
   go_wp2
   go_ret
   exact ⟨zR, zD⟩
 rw [if_pos A] at H
 have X := z1 A
 clear A
 by_cases D : 0 ≤ a
 rotate_left
 · rw [if_neg D] at H
   exact absurd H (by simp)
 rw [if_pos D] at H
 have f0 := z1 D
 clear D
 by_cases E : a < (l.length : Int)
 rotate_left
 · rw [if_neg E] at H
   exact absurd H (by simp)
 rw [if_pos E] at H
 have g0 := z1 E
 clear E
 replace H := z6 H
 obtain ⟨a0, U, H⟩ := H
 have A7 := zK U
 clear U
 by_cases I : a0 = true
 rotate_left
 · replace I := Bool.eq_false_iff.mpr I
   subst I
   rw [if_neg (show ¬ (false = true) by decide)] at H
   obtain rfl := z5 H
   have q : 0 ≤ (a : Int) := z3
   have u : a < (l.length : Int) := z3
   obtain ⟨J, z, B⟩ := Kd.at_int O.out a q u
   cases z
   replace q := eq_true q
   replace u := eq_true u
   go_wp2_with (first | ((with_reducible refine gc 62 rfl ?_); refine zF 18 Try.func62 #[.int .i64 (rd l a), .int .i64 x, .int .i64 y] rfl zL ?_; (with_reducible refine (impl_within.calls (rd l a) x y false _ A7.out).mono ?_); rintro e w' ⟨rfl, ⟨nd, rfl⟩⟩; refine ⟨_, rfl, ?_⟩))
   go_ret
   exact ⟨zR, zD⟩
 subst I
 rw [if_pos rfl] at H
 have H' := zK H
 clear H
 have q : 0 ≤ (a : Int) := z3
 have u : a < (l.length : Int) := z3
 obtain ⟨J, z, B⟩ := Kd.at_int O.out a q u
 cases z
 replace q := eq_true q
 replace u := eq_true u
 go_wp2_with (first | ((with_reducible refine gc 62 rfl ?_); refine zF 18 Try.func62 #[.int .i64 (rd l a), .int .i64 x, .int .i64 y] rfl zL ?_; (with_reducible refine (impl_within.calls (rd l a) x y true _ A7.out).mono ?_); rintro e w' ⟨rfl, ⟨nd, rfl⟩⟩; refine ⟨_, rfl, ?_⟩))
 go_roundg k1
 case measure => have := T.out; omega
 case rel => exact ⟨(wrap64 (a + 1)), zR, H', ⟨by have := T.out; omega⟩, zD⟩
def impl_OptOk.f (k : Nat) (a : List Int) (q : List Int) (u : List Int) (x : Int) (l : Int) (y : Int) : Option (Bool) := if (a.length : Int) ≤ 4096 then (if (q.length : Int) = (a.length : Int) then (if (u.length : Int) = (a.length : Int) then ((impl_allWithin.f k a (-68719476736) 68719476736).bind fun z => (if z = true then ((impl_allWithin.f k q (-4294967296) 4294967296).bind fun A => (if A = true then ((impl_allWithin.f k u 0 17179869184).bind fun B => (if B = true then ((impl_within.f x 0 1000000).bind fun D => (if D = true then ((impl_within.f l 1 65536).bind fun E => (if E = true then (if (Go.bits .and .i64 l (wrap64 (l - 1))) = 0 then ((impl_within.f y 0 1000000).bind fun I => (some I)) else (some false)) else (some false))) else (some false))) else (some false))) else (some false))) else (some false))) else (some false)) else (some false)) else (some false)
theorem impl_OptOk.calls (k) (J) (L) (a : List Int) (M) (O) (l : List Int) (T) (U) (q : List Int) (A) (u) (B) (r : Bool) (w) (g0 : Kd.C (Kd.int .i64) w J a.length a) (i0 : a.length ≤ L) (j0 : Kd.C (Kd.int .i64) w M l.length l) (l0 : l.length ≤ O) (m0 : Kd.C (Kd.int .i64) w T q.length q) (n0 : q.length ≤ U) (h : impl_OptOk.f k a l q A u B = some r) :
 Calls Try.prog 26 #[.agg #[.slice J a.length L, .slice M l.length O, .slice T q.length U, .int .i64 A, .int .i64 u, .int .i64 B]] w fun e w' => e = .returned (.bool r) ∧ Below w.heap.size w w' := by
 have C1 := Try.underlying30
 have x0 := zK g0
 have y0 := zK i0
 clear g0 i0
 have A0 := zK j0
 have B0 := zK l0
 clear j0 l0
 have C0 := zK m0
 have D0 := zK n0
 clear m0 n0
 have HB := zK (Below.refl w.heap.size w)
 have H : (if (a.length : Int) ≤ 4096 then (if (l.length : Int) = (a.length : Int) then (if (q.length : Int) = (a.length : Int) then ((impl_allWithin.f k a (-68719476736) 68719476736).bind fun X => (if X = true then ((impl_allWithin.f k l (-4294967296) 4294967296).bind fun a0 => (if a0 = true then ((impl_allWithin.f k q 0 17179869184).bind fun b0 => (if b0 = true then ((impl_within.f A 0 1000000).bind fun c0 => (if c0 = true then ((impl_within.f u 1 65536).bind fun d0 => (if d0 = true then (if (Go.bits .and .i64 u (wrap64 (u - 1))) = 0 then ((impl_within.f B 0 1000000).bind fun e0 => (some e0)) else (some false)) else (some false))) else (some false))) else (some false))) else (some false))) else (some false))) else (some false)) else (some false)) else (some false)) = some r := h
 clear h
 rcases zN ((a.length : Int) ≤ 4096) with c2 | c2
 rw [if_neg c2] at H
 have M0 := z2 c2
 have N0 : decide (a.length ≤ 4096) = false := z2 (by omega)
 clear c2
 obtain rfl := z5 H
 rotate_left
 rw [if_pos c2] at H
 have M0 := z1 c2
 have N0 : decide (a.length ≤ 4096) = true := z1 (by omega)
 clear c2
 rcases zN ((l.length : Int) = (a.length : Int)) with y | y
 rw [if_neg y] at H
 have O0 := beq_eq_false_iff_ne.mpr y
 have R0 := bne_iff_ne.mpr y
 have S0 : (l.length == a.length) = false := by first | simpa using y | (simp at y ⊢; omega)
 obtain rfl := z5 H
 rotate_left
 rw [if_pos y] at H
 have O0 := beq_iff_eq.mpr y
 have R0 := bne_eq_false_iff_eq.mpr y
 have S0 : (l.length == a.length) = true := by first | simpa using y | (simp at y ⊢; omega)
 clear y
 rcases zN ((q.length : Int) = (a.length : Int)) with z | z
 rw [if_neg z] at H
 have T0 := beq_eq_false_iff_ne.mpr z
 have U0 := bne_iff_ne.mpr z
 have V0 : (q.length == a.length) = false := by first | simpa using z | (simp at z ⊢; omega)
 obtain rfl := z5 H
 rotate_left
 rw [if_pos z] at H
 have T0 := beq_iff_eq.mpr z
 have U0 := bne_eq_false_iff_eq.mpr z
 have V0 : (q.length == a.length) = true := by first | simpa using z | (simp at z ⊢; omega)
 clear z
 replace H := z6 H
 obtain ⟨X, I0, H⟩ := H
 have A5 := zK I0
 clear I0
 rcases zN (X = true) with c6 | c6
 replace c6 := Bool.eq_false_iff.mpr c6
 subst c6
 rw [if_neg (show ¬ (false = true) by decide)] at H
 obtain rfl := z5 H
 rotate_left
 subst c6
 rw [if_pos rfl] at H
 replace H := z6 H
 obtain ⟨a0, J0, H⟩ := H
 have A7 := zK J0
 clear J0
 rcases zN (a0 = true) with c8 | c8
 replace c8 := Bool.eq_false_iff.mpr c8
 subst c8
 rw [if_neg (show ¬ (false = true) by decide)] at H
 obtain rfl := z5 H
 rotate_left
 subst c8
 rw [if_pos rfl] at H
 replace H := z6 H
 obtain ⟨b0, L0, H⟩ := H
 have A9 := zK L0
 clear L0
 rcases zN (b0 = true) with D | D
 replace D := Bool.eq_false_iff.mpr D
 subst D
 rw [if_neg (show ¬ (false = true) by decide)] at H
 obtain rfl := z5 H
 rotate_left
 subst D
 rw [if_pos rfl] at H
 replace H := z6 H
 obtain ⟨c0, q0, H⟩ := H
 have n1 := zK q0
 clear q0
 rcases zN (c0 = true) with E | E
 replace E := Bool.eq_false_iff.mpr E
 subst E
 rw [if_neg (show ¬ (false = true) by decide)] at H
 obtain rfl := z5 H
 rotate_left
 subst E
 rw [if_pos rfl] at H
 replace H := z6 H
 obtain ⟨d0, s0, H⟩ := H
 have o1 := zK s0
 clear s0
 rcases zN (d0 = true) with I | I
 replace I := Bool.eq_false_iff.mpr I
 subst I
 rw [if_neg (show ¬ (false = true) by decide)] at H
 obtain rfl := z5 H
 rotate_left
 subst I
 rw [if_pos rfl] at H
 rcases zN ((Go.bits .and .i64 u (wrap64 (u - 1))) = 0) with x | x
 rw [if_neg x] at H
 have E0 := beq_eq_false_iff_ne.mpr x
 have F0 := bne_iff_ne.mpr x
 obtain rfl := z5 H
 rotate_left
 rw [if_pos x] at H
 have E0 := beq_iff_eq.mpr x
 have F0 := bne_eq_false_iff_eq.mpr x
 clear x
 replace H := z6 H
 obtain ⟨e0, t0, H⟩ := H
 have p1 := zK t0
 clear t0
 obtain rfl := z5 H
 all_goals go_enter Try.func26, Try.ntmps26
 all_goals go_wp2_with (first | ((with_reducible refine gd 1 rfl ?_); (try (refine gate_guard (by rfl) ?_; dsimp only)); refine zJ 1 #[.slice J a.length L, .slice M l.length O, .slice T q.length U, .int .i64 A, .int .i64 u, .int .i64 B] 30 ?_; intro y1 hg G1 hbox hb; have q1 := z8 hb; have s1 := zK (hbox); have t1 := z9 hg; have x1 := z9 hg; revert q1 s1 t1 x1; clear HB; intro HB G0 A1 B1; clear hb hbox hg; obtain ⟨X0, a1, b1, c1, d1, e1, f1, g1, i1, j1, l1, m1⟩ := zc6 G0) | (go_at_call 61; (with_reducible refine (impl_allWithin.calls k _ _ a (-68719476736) 68719476736 _ _ ?side1 ?side2 A5.out).mono ?_); (case side1 => exact zS x0); (case side2 => exact y0.out); rintro e w' ⟨rfl, ⟨nd, rfl⟩⟩) | (go_at_call 61; (with_reducible refine (impl_allWithin.calls k _ _ l (-4294967296) 4294967296 _ _ ?side1 ?side2 A7.out).mono ?_); (case side1 => exact zS A0); (case side2 => exact B0.out); rintro e w' ⟨rfl, ⟨nd, rfl⟩⟩) | (go_at_call 61; (with_reducible refine (impl_allWithin.calls k _ _ q 0 17179869184 _ _ ?side1 ?side2 A9.out).mono ?_); (case side1 => exact zS C0); (case side2 => exact D0.out); rintro e w' ⟨rfl, ⟨nd, rfl⟩⟩) | (go_at_call 62; (with_reducible refine (impl_within.calls A 0 1000000 _ _ n1.out).mono ?_); rintro e w' ⟨rfl, ⟨nd, rfl⟩⟩) | (go_at_call 62; (with_reducible refine (impl_within.calls u 1 65536 _ _ o1.out).mono ?_); rintro e w' ⟨rfl, ⟨nd, rfl⟩⟩) | (go_at_call 62; (with_reducible refine (impl_within.calls B 0 1000000 e0 _ p1.out).mono ?_); rintro e w' ⟨rfl, ⟨nd, rfl⟩⟩))
 all_goals go_ret
 all_goals exact ⟨zE, zB⟩
def impl_SchedOk.f (a : Int) (q : Int) (u : Int) (l : Int) : Option (Bool) := (impl_within.f a 0 16777216).bind fun x => (if x = true then ((impl_within.f q 0 a).bind fun y => (if y = true then ((impl_within.f l 0 1000000).bind fun z => (if z = true then ((impl_within.f u 0 l).bind fun A => (some A)) else (some false))) else (some false))) else (some false))
theorem impl_SchedOk.calls (a) (q) (u) (l) (r : Bool) (w) (h : impl_SchedOk.f a q u l = some r) :
 Calls Try.prog 68 #[.agg #[.int .i64 a, .int .i64 q, .int .i64 u, .int .i64 l]] w fun e w' => e = .returned (.bool r) ∧ Below w.heap.size w w' := by
 have o0 := Try.underlying33
 have HB := zK (Below.refl w.heap.size w)
 have H : ((impl_within.f a 0 16777216).bind fun x => (if x = true then ((impl_within.f q 0 a).bind fun y => (if y = true then ((impl_within.f l 0 1000000).bind fun z => (if z = true then ((impl_within.f u 0 l).bind fun A => (some A)) else (some false))) else (some false))) else (some false))) = some r := h
 clear h
 replace H := z6 H
 obtain ⟨x, J, H⟩ := H
 have A2 := zK J
 clear J
 rcases zN (x = true) with B | B
 replace B := Bool.eq_false_iff.mpr B
 subst B
 rw [if_neg (show ¬ (false = true) by decide)] at H
 obtain rfl := z5 H
 rotate_left
 subst B
 rw [if_pos rfl] at H
 replace H := z6 H
 obtain ⟨y, L, H⟩ := H
 have A4 := zK L
 clear L
 rcases zN (y = true) with D | D
 replace D := Bool.eq_false_iff.mpr D
 subst D
 rw [if_neg (show ¬ (false = true) by decide)] at H
 obtain rfl := z5 H
 rotate_left
 subst D
 rw [if_pos rfl] at H
 replace H := z6 H
 obtain ⟨z, M, H⟩ := H
 have A6 := zK M
 clear M
 rcases zN (z = true) with E | E
 replace E := Bool.eq_false_iff.mpr E
 subst E
 rw [if_neg (show ¬ (false = true) by decide)] at H
 obtain rfl := z5 H
 rotate_left
 subst E
 rw [if_pos rfl] at H
 replace H := z6 H
 obtain ⟨A, O, H⟩ := H
 have A8 := zK O
 clear O
 obtain rfl := z5 H
 all_goals go_enter Try.func68, Try.ntmps68
 all_goals go_wp2_with (first | ((with_reducible refine gd 1 rfl ?_); refine zJ 1 #[.int .i64 a, .int .i64 q, .int .i64 u, .int .i64 l] 33 ?_; intro l0 hg w9 hbox hb; have f0 := z8 hb; have g0 := zK (hbox); have i0 := z9 hg; have j0 := z9 hg; revert f0 g0 i0 j0; clear HB; intro HB I m0 n0; clear hb hbox hg; obtain ⟨T, U, X, a0, b0, c0, d0, e0⟩ := zc4 I) | ((with_reducible refine gc 62 rfl ?_); refine zF 5 Try.func62 #[.int .i64 a, .int .i64 0, .int .i64 16777216] rfl zL ?_; (with_reducible refine (impl_within.calls a 0 16777216 _ _ A2.out).mono ?_); rintro e w' ⟨rfl, ⟨nd, rfl⟩⟩; refine ⟨_, rfl, ?_⟩) | (go_at_call 62; (with_reducible refine (impl_within.calls q 0 a _ _ A4.out).mono ?_); rintro e w' ⟨rfl, ⟨nd, rfl⟩⟩) | (go_at_call 62; (with_reducible refine (impl_within.calls l 0 1000000 _ _ A6.out).mono ?_); rintro e w' ⟨rfl, ⟨nd, rfl⟩⟩) | (go_at_call 62; (with_reducible refine (impl_within.calls u 0 l A _ A8.out).mono ?_); rintro e w' ⟨rfl, ⟨nd, rfl⟩⟩))
 all_goals go_ret
 all_goals exact ⟨zE, zB⟩
def impl_isPart.f (l : Int) : Option (Bool) := (impl_within.f l 0 65536).bind fun a => (some a)
theorem impl_isPart.calls (l) (r : Bool) (w) (h : impl_isPart.f l = some r) :
 Calls Try.prog 69 #[.int .i64 l] w fun e w' => e = .returned (.bool r) ∧ Drawn0 w w' := by
 have H : ((impl_within.f l 0 65536).bind fun a => (some a)) = some r := h
 clear h
 replace H := z6 H
 obtain ⟨a, q, H⟩ := H
 have u := zK q
 clear q
 obtain rfl := z5 H
 go_enter Try.func69, Try.ntmps69
 go_wp2_with (first | ((with_reducible refine gc 62 rfl ?_); refine zF 4 Try.func62 #[.int .i64 l, .int .i64 0, .int .i64 65536] rfl zL ?_; (with_reducible refine (impl_within.calls l 0 65536 a _ u.out).mono ?_); rintro e w' ⟨rfl, ⟨nd, rfl⟩⟩; refine ⟨_, rfl, ?_⟩))
 go_ret
 exact ⟨zR, zD⟩
def impl_RuleOk.f (l : Int) (q : Int) (u : Int) (x : Int) (y : Int) (z : Int) (A : Int) (B : Int) (D : Int) (E : Int) (a : Int) : Option (Bool) := (impl_within.f l 1 3).bind fun I => (if I = true then ((impl_SchedOk.f q u x y).bind fun J => (if J = true then ((impl_isPart.f z).bind fun L => (if L = true then ((impl_isPart.f A).bind fun M => (if M = true then ((impl_isPart.f D).bind fun O => (if O = true then ((impl_within.f B 1 16777216).bind fun T => (if T = true then ((impl_within.f E 0 1073741824).bind fun U => (if U = true then ((impl_within.f a 0 1000000).bind fun X => (some X)) else (some false))) else (some false))) else (some false))) else (some false))) else (some false))) else (some false))) else (some false))
theorem impl_RuleOk.calls (q) (u) (x) (y) (z) (A) (B) (D) (E) (I) (a) (r : Bool) (w) (h : impl_RuleOk.f q u x y z A B D E I a = some r) :
 Calls Try.prog 43 #[.agg #[.int .i64 q, .int .i64 u, .int .i64 x, .int .i64 y, .int .i64 z, .int .i64 A, .int .i64 B, .int .i64 D, .int .i64 E, .int .i64 I, .int .i64 a]] w fun e w' => e = .returned (.bool r) ∧ Below w.heap.size w w' := by
 have S1 := Try.underlying35
 have T1 := Try.underlying33
 have HB := zK (Below.refl w.heap.size w)
 have H : ((impl_within.f q 1 3).bind fun O => (if O = true then ((impl_SchedOk.f u x y z).bind fun T => (if T = true then ((impl_isPart.f A).bind fun U => (if U = true then ((impl_isPart.f B).bind fun X => (if X = true then ((impl_isPart.f E).bind fun a0 => (if a0 = true then ((impl_within.f D 1 16777216).bind fun b0 => (if b0 = true then ((impl_within.f I 0 1073741824).bind fun c0 => (if c0 = true then ((impl_within.f a 0 1000000).bind fun d0 => (some d0)) else (some false))) else (some false))) else (some false))) else (some false))) else (some false))) else (some false))) else (some false))) = some r := h
 clear h
 replace H := z6 H
 obtain ⟨O, q0, H⟩ := H
 have A2 := zK q0
 clear q0
 rcases zN (O = true) with c3 | c3
 replace c3 := Bool.eq_false_iff.mpr c3
 subst c3
 rw [if_neg (show ¬ (false = true) by decide)] at H
 obtain rfl := z5 H
 rotate_left
 subst c3
 rw [if_pos rfl] at H
 replace H := z6 H
 obtain ⟨T, s0, H⟩ := H
 have A4 := zK s0
 clear s0
 rcases zN (T = true) with c5 | c5
 replace c5 := Bool.eq_false_iff.mpr c5
 subst c5
 rw [if_neg (show ¬ (false = true) by decide)] at H
 obtain rfl := z5 H
 rotate_left
 subst c5
 rw [if_pos rfl] at H
 replace H := z6 H
 obtain ⟨U, t0, H⟩ := H
 have A6 := zK t0
 clear t0
 rcases zN (U = true) with c7 | c7
 replace c7 := Bool.eq_false_iff.mpr c7
 subst c7
 rw [if_neg (show ¬ (false = true) by decide)] at H
 obtain rfl := z5 H
 rotate_left
 subst c7
 rw [if_pos rfl] at H
 replace H := z6 H
 obtain ⟨X, x0, H⟩ := H
 have A8 := zK x0
 clear x0
 rcases zN (X = true) with c9 | c9
 replace c9 := Bool.eq_false_iff.mpr c9
 subst c9
 rw [if_neg (show ¬ (false = true) by decide)] at H
 obtain rfl := z5 H
 rotate_left
 subst c9
 rw [if_pos rfl] at H
 replace H := z6 H
 obtain ⟨a0, j0, H⟩ := H
 have F1 := zK j0
 clear j0
 rcases zN (a0 = true) with J | J
 replace J := Bool.eq_false_iff.mpr J
 subst J
 rw [if_neg (show ¬ (false = true) by decide)] at H
 obtain rfl := z5 H
 rotate_left
 subst J
 rw [if_pos rfl] at H
 replace H := z6 H
 obtain ⟨b0, l0, H⟩ := H
 have G1 := zK l0
 clear l0
 rcases zN (b0 = true) with L | L
 replace L := Bool.eq_false_iff.mpr L
 subst L
 rw [if_neg (show ¬ (false = true) by decide)] at H
 obtain rfl := z5 H
 rotate_left
 subst L
 rw [if_pos rfl] at H
 replace H := z6 H
 obtain ⟨c0, m0, H⟩ := H
 have I1 := zK m0
 clear m0
 rcases zN (c0 = true) with M | M
 replace M := Bool.eq_false_iff.mpr M
 subst M
 rw [if_neg (show ¬ (false = true) by decide)] at H
 obtain rfl := z5 H
 rotate_left
 subst M
 rw [if_pos rfl] at H
 replace H := z6 H
 obtain ⟨d0, n0, H⟩ := H
 have J1 := zK n0
 clear n0
 obtain rfl := z5 H
 all_goals go_enter Try.func43, Try.ntmps43
 all_goals go_wp2_with (first | ((with_reducible refine gd 1 rfl ?_); refine zJ 1 #[.int .i64 q, .int .i64 u, .int .i64 x, .int .i64 y, .int .i64 z, .int .i64 A, .int .i64 B, .int .i64 D, .int .i64 E, .int .i64 I, .int .i64 a] 35 ?_; intro N1 hg b2 hbox hb; have o0 := z8 hb; have p0 := zK (hbox); have L1 := z9 hg; have M1 := z9 hg; revert o0 p0 L1 M1; clear HB; intro HB l O1 R1; clear hb hbox hg; obtain ⟨D0, E0, F0, G0, I0, J0, L0, M0, N0, O0, y0, R0, S0, T0, U0, V0, X0, a1, b1, c1, d1, A0⟩ := zc11 l) | ((with_reducible refine gc 62 rfl ?_); refine zF 5 Try.func62 #[.int .i64 q, .int .i64 1, .int .i64 3] rfl zL ?_; (with_reducible refine (impl_within.calls q 1 3 _ _ A2.out).mono ?_); rintro e w' ⟨rfl, ⟨nd, rfl⟩⟩; refine ⟨_, rfl, ?_⟩) | (go_at_call 68; (with_reducible refine (impl_SchedOk.calls u x y z _ _ A4.out).mono ?_); rintro e c2 ⟨rfl, hb⟩; have o0 := z7 l hb; have p0 := z8 hb; revert o0 p0; clear l HB; intro l HB; obtain ⟨e1, f1, g1, i1, j1, l1, m1, n1, o1, p1, B0, q1, s1, t1, x1, y1, A1, B1, C1, D1, E1, C0⟩ := zc11 l) | (go_at_call 69; (with_reducible refine (impl_isPart.calls A _ _ A6.out).mono ?_); rintro e w' ⟨rfl, ⟨nd, rfl⟩⟩) | (go_at_call 69; (with_reducible refine (impl_isPart.calls B _ _ A8.out).mono ?_); rintro e w' ⟨rfl, ⟨nd, rfl⟩⟩) | (go_at_call 69; (with_reducible refine (impl_isPart.calls E _ _ F1.out).mono ?_); rintro e w' ⟨rfl, ⟨nd, rfl⟩⟩) | (go_at_call 62; (with_reducible refine (impl_within.calls D 1 16777216 _ _ G1.out).mono ?_); rintro e w' ⟨rfl, ⟨nd, rfl⟩⟩) | (go_at_call 62; (with_reducible refine (impl_within.calls I 0 1073741824 _ _ I1.out).mono ?_); rintro e w' ⟨rfl, ⟨nd, rfl⟩⟩) | (go_at_call 62; (with_reducible refine (impl_within.calls a 0 1000000 d0 _ J1.out).mono ?_); rintro e w' ⟨rfl, ⟨nd, rfl⟩⟩))
 all_goals go_ret
 all_goals exact ⟨zE, zB⟩
end Go.Proofs.Ytodfhokndnmdoaa.PFnFactor
