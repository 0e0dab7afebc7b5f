-- Printed out of the translation by this session's own turned copy of a printer; Lean checks it.
import Derived.Test.YtodfhokndnmdoaaPFnFactorx0
import Derived.Test.YtodfhokndnmdoaaPFnFactorx1
namespace Go.Proofs.Ytodfhokndnmdoaa.PFnFactor
open Go.RowKit Go.Proofs.YtodfhokndnmdoaaW.PrintWords Go.Proofs.YtodfhokndnmdoaaW.PrintLast Go.Proofs.YtodfhokndnmdoaaW.PrintMore
attribute [local go_sem] max2_int min2_int max_two min_two max_three min_three max_four min_four
set_option linter.unusedVariables false
set_option linter.unusedSimpArgs false
set_option maxHeartbeats 8000000
set_option maxRecDepth 100000
def spec_RuleOk.f (l : Int) (q : Int) (u : Int) (x : Int) (y : Int) (z : Int) (A : Int) (B : Int) (D : Int) (E : Int) (a : Int) : Option (Bool) := (spec_l5In.f l 1 3).bind fun I => (if I = true then ((spec_SchedOk.f q u x y).bind fun J => (if J = true then ((spec_l15Part.f z).bind fun L => (if L = true then ((spec_l15Part.f A).bind fun M => (if M = true then ((spec_l15Part.f D).bind fun O => (if O = true then ((spec_l5In.f B 1 16777216).bind fun T => (if T = true then ((spec_l5In.f E 0 1073741824).bind fun U => (if U = true then ((spec_l5In.f a 0 1000000).bind fun X => (some X)) else (some false))) else (some false))) else (some false))) else (some false))) else (some false))) else (some false))) else (some false))
theorem spec_RuleOk.calls (q) (u) (x) (y) (z) (A) (B) (D) (E) (I) (a) (r : Bool) (w) (h : spec_RuleOk.f q u x y z A B D E I a = some r) :
 Calls Try.prog 33 #[.agg #[.int .i64 q, .int .i64 u, .int .i64 x, .int .i64 y, .int .i64 z, .int .i64 A, .int .i64 B, .int .i64 D, .int .i64 E, .int .i64 I, .int .i64 a]] w fun e w' => e = .returned (.bool r) ∧ Below w.heap.size w w' := by
 have S1 := Try.underlying35
 have T1 := Try.underlying33
 have HB := zK (Below.refl w.heap.size w)
 have H : ((spec_l5In.f q 1 3).bind fun O => (if O = true then ((spec_SchedOk.f u x y z).bind fun T => (if T = true then ((spec_l15Part.f A).bind fun U => (if U = true then ((spec_l15Part.f B).bind fun X => (if X = true then ((spec_l15Part.f E).bind fun a0 => (if a0 = true then ((spec_l5In.f D 1 16777216).bind fun b0 => (if b0 = true then ((spec_l5In.f I 0 1073741824).bind fun c0 => (if c0 = true then ((spec_l5In.f a 0 1000000).bind fun d0 => (some d0)) else (some false))) else (some false))) else (some false))) else (some false))) else (some false))) else (some false))) else (some false))) = some r := h
 clear h
 replace H := z6 H
 obtain ⟨O, q0, H⟩ := H
 have A2 := zK q0
 clear q0
 rcases zN (O = true) with c3 | c3
 replace c3 := Bool.eq_false_iff.mpr c3
 subst c3
 rw [if_neg (show ¬ (false = true) by decide)] at H
 obtain rfl := z5 H
 rotate_left
 subst c3
 rw [if_pos rfl] at H
 replace H := z6 H
 obtain ⟨T, s0, H⟩ := H
 have A4 := zK s0
 clear s0
 rcases zN (T = true) with c5 | c5
 replace c5 := Bool.eq_false_iff.mpr c5
 subst c5
 rw [if_neg (show ¬ (false = true) by decide)] at H
 obtain rfl := z5 H
 rotate_left
 subst c5
 rw [if_pos rfl] at H
 replace H := z6 H
 obtain ⟨U, t0, H⟩ := H
 have A6 := zK t0
 clear t0
 rcases zN (U = true) with c7 | c7
 replace c7 := Bool.eq_false_iff.mpr c7
 subst c7
 rw [if_neg (show ¬ (false = true) by decide)] at H
 obtain rfl := z5 H
 rotate_left
 subst c7
 rw [if_pos rfl] at H
 replace H := z6 H
 obtain ⟨X, x0, H⟩ := H
 have A8 := zK x0
 clear x0
 rcases zN (X = true) with c9 | c9
 replace c9 := Bool.eq_false_iff.mpr c9
 subst c9
 rw [if_neg (show ¬ (false = true) by decide)] at H
 obtain rfl := z5 H
 rotate_left
 subst c9
 rw [if_pos rfl] at H
 replace H := z6 H
 obtain ⟨a0, j0, H⟩ := H
 have F1 := zK j0
 clear j0
 rcases zN (a0 = true) with J | J
 replace J := Bool.eq_false_iff.mpr J
 subst J
 rw [if_neg (show ¬ (false = true) by decide)] at H
 obtain rfl := z5 H
 rotate_left
 subst J
 rw [if_pos rfl] at H
 replace H := z6 H
 obtain ⟨b0, l0, H⟩ := H
 have G1 := zK l0
 clear l0
 rcases zN (b0 = true) with L | L
 replace L := Bool.eq_false_iff.mpr L
 subst L
 rw [if_neg (show ¬ (false = true) by decide)] at H
 obtain rfl := z5 H
 rotate_left
 subst L
 rw [if_pos rfl] at H
 replace H := z6 H
 obtain ⟨c0, m0, H⟩ := H
 have I1 := zK m0
 clear m0
 rcases zN (c0 = true) with M | M
 replace M := Bool.eq_false_iff.mpr M
 subst M
 rw [if_neg (show ¬ (false = true) by decide)] at H
 obtain rfl := z5 H
 rotate_left
 subst M
 rw [if_pos rfl] at H
 replace H := z6 H
 obtain ⟨d0, n0, H⟩ := H
 have J1 := zK n0
 clear n0
 obtain rfl := z5 H
 all_goals go_enter Try.func33, Try.ntmps33
 all_goals go_wp2_with (first | ((with_reducible refine gd 1 rfl ?_); refine zJ 1 #[.int .i64 q, .int .i64 u, .int .i64 x, .int .i64 y, .int .i64 z, .int .i64 A, .int .i64 B, .int .i64 D, .int .i64 E, .int .i64 I, .int .i64 a] 35 ?_; intro N1 hg b2 hbox hb; have o0 := z8 hb; have p0 := zK (hbox); have L1 := z9 hg; have M1 := z9 hg; revert o0 p0 L1 M1; clear HB; intro HB l O1 R1; clear hb hbox hg; obtain ⟨D0, E0, F0, G0, I0, J0, L0, M0, N0, O0, y0, R0, S0, T0, U0, V0, X0, a1, b1, c1, d1, A0⟩ := zc11 l) | ((with_reducible refine gc 63 rfl ?_); refine zF 5 Try.func63 #[.int .i64 q, .int .i64 1, .int .i64 3] rfl zL ?_; (with_reducible refine (spec_l5In.calls q 1 3 _ _ A2.out).mono ?_); rintro e w' ⟨rfl, ⟨nd, rfl⟩⟩; refine ⟨_, rfl, ?_⟩) | (go_at_call 64; (with_reducible refine (spec_SchedOk.calls u x y z _ _ A4.out).mono ?_); rintro e c2 ⟨rfl, hb⟩; have o0 := z7 l hb; have p0 := z8 hb; revert o0 p0; clear l HB; intro l HB; obtain ⟨e1, f1, g1, i1, j1, l1, m1, n1, o1, p1, B0, q1, s1, t1, x1, y1, A1, B1, C1, D1, E1, C0⟩ := zc11 l) | (go_at_call 65; (with_reducible refine (spec_l15Part.calls A _ _ A6.out).mono ?_); rintro e w' ⟨rfl, ⟨nd, rfl⟩⟩) | (go_at_call 65; (with_reducible refine (spec_l15Part.calls B _ _ A8.out).mono ?_); rintro e w' ⟨rfl, ⟨nd, rfl⟩⟩) | (go_at_call 65; (with_reducible refine (spec_l15Part.calls E _ _ F1.out).mono ?_); rintro e w' ⟨rfl, ⟨nd, rfl⟩⟩) | (go_at_call 63; (with_reducible refine (spec_l5In.calls D 1 16777216 _ _ G1.out).mono ?_); rintro e w' ⟨rfl, ⟨nd, rfl⟩⟩) | (go_at_call 63; (with_reducible refine (spec_l5In.calls I 0 1073741824 _ _ I1.out).mono ?_); rintro e w' ⟨rfl, ⟨nd, rfl⟩⟩) | (go_at_call 63; (with_reducible refine (spec_l5In.calls a 0 1000000 d0 _ J1.out).mono ?_); rintro e w' ⟨rfl, ⟨nd, rfl⟩⟩))
 all_goals go_ret
 all_goals exact ⟨zE, zB⟩
def spec_l3Ints.f (l : List Int) : Option (List Int) := (some (([] : List Int) : List Int)).bind fun a => (if a.length + l.length < 17592186044416 then (some (a ++ l)) else (none))
theorem spec_l3Ints.calls (M) (O) (u : List Int) (r : List Int) (w) (I : Kd.C (Kd.int .i64) w M u.length u) (J : u.length ≤ O) (h : spec_l3Ints.f u = some r) :
 Calls Try.prog 34 #[.slice M u.length O] w fun e w' => ∃ v0_ : Value, e = .returned (v0_) ∧ Kd.R (Kd.int .i64) 3 w' w.heap.size (fun _ => True) v0_ r ∧ Below w.heap.size w w' := by
 have T := zK I
 have U := zK J
 clear I J
 have HB := zK (Below.refl w.heap.size w)
 have H : ((some (([] : List Int) : List Int)).bind fun a => (if a.length + u.length < 17592186044416 then (some (a ++ u)) else (none))) = some r := h
 clear h
 obtain ⟨a, l⟩ : ∃ y_ : List Int, y_ = (([] : List Int)) := ⟨_, rfl⟩
 replace H : (if a.length + u.length < 17592186044416 then (some (a ++ u)) else (none)) = some r := by first | (rw [l]; with_reducible exact H) | (have x := (Option.bind_some _ _).symm.trans H; rw [l]; with_reducible exact x) | (have x := (Option.bind_some _ _).symm.trans H; with_reducible exact x) | with_reducible exact H | (rw [l]; exact H) | exact H
 have Ny129 := zK l
 clear l
 by_cases D : a.length + u.length < 17592186044416
 rotate_left
 · rw [if_neg D] at H
   exact absurd H (by simp)
 rw [if_pos D] at H
 have LMc2 := zK D
 clear D
 obtain ⟨L, q⟩ : ∃ y_ : List Int, y_ = (a ++ u) := ⟨_, rfl⟩
 replace H : (some L) = some r := by first | (rw [q]; with_reducible exact H) | (have x := (Option.bind_some _ _).symm.trans H; rw [q]; with_reducible exact x) | (have x := (Option.bind_some _ _).symm.trans H; with_reducible exact x) | with_reducible exact H | (rw [q]; exact H) | exact H
 have Ny132 := zK q
 clear q
 obtain rfl := z5 H
 go_enter Try.func34, Try.ntmps34
 go_wp2_with (first | ((with_reducible refine gd 3 rfl ?_); refine Kd.R_lit (Kd.int .i64) _ 3 ?hg (N := 3) ?hd (xs := ([] : List Int)) (inner := []) (ok := fun _ => True) (okp := fun _ => True) ?hr ?hp (fun _ hk => hk) trivial (Below.refl _ _) (Nat.le_refl _) (by simp) ?_; (case hd => rfl); (case hg => rfl); (case hr => first | (go_simp; done) | (go_simp; rfl)); (case hp => exact (Reps.none _ _)); intro v130 X y hb hg_ hnew_; clear hg_ hnew_; (first | rw [← Ny129.out] at y | (simp only [Int.reduceToNat] at y; rw [← Ny129.out] at y)); have A := zK (Kd.R_lower y (zz zB)); have B := z8 hb; revert A B; clear HB; intro z HB; clear hb y) | ((with_reducible refine gate_builtin (b := .append) (xs := #[.tmp 3, .tmp 4]) rfl ?_); at_builtin; refine Kd.R_append_rows (Kd.int .i64) (w0 := w) w.heap.size rfl (.tmp 3) (.tmp 4) 26 3 (.int .i64 0) 8 rfl Try.underlying26 info3 rfl (by decide) (by omega) v130 a u _ _ _ (fun _ => True) (fun _ => False) rfl rfl ?aO ?aR (fun _ _ h => h) (fun _ h => h.elim) ?aF ?aB ?aS ?aL ?_; (case aR => exact zS T); (case aB => exact zB); (case aF => exact (fun _ _ => trivial)); (case aO => exact (zkR z)); (case aS => exact (zz zB)); (case aL => have := LMc2.out; omega); intro v133 w5 ho hb hg hat; rw [← Ny132.out] at ho; have A := zK (hb); have B := zK (ho); revert A B; clear HB z; intro HB E; clear ho hb hg hat))
 go_ret
 exact ⟨_, zE, zkR E, zB⟩
def spec_l15Grad.l0 : Nat → List Int → Int → Option (Bool)
 | 0, _, _ => none
 | k + 1, a, l => if l < (a.length : Int) then (if 0 ≤ l then ((spec_l5In.f (rd a l) (-16777216) 16777216).bind fun q => (if q = true then (spec_l15Grad.l0 k a (wrap64 (l + 1))) else (some false))) else (none)) else (some (decide ((a.length : Int) ≤ 4096)))
def spec_l15Grad.f (k : Nat) (a : List Int) : Option (Bool) := spec_l15Grad.l0 k a 0
theorem spec_l15Grad.calls (k) (U) (X) (u : List Int) (r : Bool) (w) (E : Kd.C (Kd.int .i64) w U u.length u) (I : u.length ≤ X) (h : spec_l15Grad.f k u = some r) :
 Calls Try.prog 35 #[.slice U u.length X] w fun e w' => e = .returned (.bool r) ∧ Drawn0 w w' := by
 have J := zK E
 have d0 := zK I
 clear E I
 have H : (spec_l15Grad.l0 k u 0) = some r := h
 clear h
 have H' := zK H
 clear H
 go_enter Try.func35, Try.ntmps35
 go_wp2
 go_loopg [3] k (fun kq v3 w' => ∃ (a : Int), v3 = .int .i64 a ∧ Aside0 (spec_l15Grad.l0 kq u a = some r) ∧ Aside0 (kq ≤ k) ∧ Drawn0 w w')
 case atStart => exact ⟨(0), zR, H', ⟨Nat.le_refl _⟩, zD⟩
 clear H'
 obtain ⟨a, rfl, HA, L, ⟨m1, rfl⟩⟩ := hrel
 rcases gk with _ | k1
 · exact absurd HA.out (by simp [spec_l15Grad.l0])
 have H := HA.out
 clear HA
 simp only [spec_l15Grad.l0] at H
 by_cases y : a < (u.length : Int)
 rotate_left
 · rw [if_neg y] at H
   have O := z2 y
   clear y
   obtain rfl := z5 H
   go_wp2
   go_ret
   exact ⟨zR, zD⟩
 rw [if_pos y] at H
 have O := z1 y
 clear y
 by_cases A : 0 ≤ a
 rotate_left
 · rw [if_neg A] at H
   exact absurd H (by simp)
 rw [if_pos A] at H
 have b0 := z1 A
 clear A
 replace H := z6 H
 obtain ⟨T, M, H⟩ := H
 have A4 := zK M
 clear M
 by_cases B : T = true
 rotate_left
 · replace B := Bool.eq_false_iff.mpr B
   subst B
   rw [if_neg (show ¬ (false = true) by decide)] at H
   obtain rfl := z5 H
   have l : 0 ≤ (a : Int) := z3
   have q : a < (u.length : Int) := z3
   obtain ⟨D, x, z⟩ := Kd.at_int J.out a l q
   cases x
   replace l := eq_true l
   replace q := eq_true q
   go_wp2_with (first | ((with_reducible refine gc 63 rfl ?_); refine zF 14 Try.func63 #[.int .i64 (rd u a), .int .i64 (-16777216), .int .i64 16777216] rfl zL ?_; (with_reducible refine (spec_l5In.calls (rd u a) (-16777216) 16777216 false _ A4.out).mono ?_); rintro e w' ⟨rfl, ⟨nd, rfl⟩⟩; refine ⟨_, rfl, ?_⟩))
   go_ret
   exact ⟨zR, zD⟩
 subst B
 rw [if_pos rfl] at H
 have H' := zK H
 clear H
 have l : 0 ≤ (a : Int) := z3
 have q : a < (u.length : Int) := z3
 obtain ⟨D, x, z⟩ := Kd.at_int J.out a l q
 cases x
 replace l := eq_true l
 replace q := eq_true q
 go_wp2_with (first | ((with_reducible refine gc 63 rfl ?_); refine zF 14 Try.func63 #[.int .i64 (rd u a), .int .i64 (-16777216), .int .i64 16777216] rfl zL ?_; (with_reducible refine (spec_l5In.calls (rd u a) (-16777216) 16777216 true _ A4.out).mono ?_); rintro e w' ⟨rfl, ⟨nd, rfl⟩⟩; refine ⟨_, rfl, ?_⟩))
 go_roundg k1
 case measure => have := L.out; omega
 case rel => exact ⟨(wrap64 (a + 1)), zR, H', ⟨by have := L.out; omega⟩, zD⟩
def spec_l2Round.f (a : Int) (l : Int) (q : Int) : Option (Int) := if l > (wrap64 (q - l)) then (some (wrap64 (a + 1))) else (if l = (wrap64 (q - l)) then (if (Go.bits .and .i64 a 1) = 1 then (some (wrap64 (a + 1))) else (some a)) else (some a))
theorem spec_l2Round.calls (l) (a) (x) (r) (w) (h : spec_l2Round.f l a x = some r) :
 Calls Try.prog 66 #[.int .i64 l, .int .i64 a, .int .i64 x] w fun e w' => e = .returned (.int .i64 r) ∧ Drawn0 w w' := by
 have H : (if a > (wrap64 (x - a)) then (some (wrap64 (l + 1))) else (if a = (wrap64 (x - a)) then (if (Go.bits .and .i64 l 1) = 1 then (some (wrap64 (l + 1))) else (some l)) else (some l))) = some r := h
 clear h
 by_cases y : a > (wrap64 (x - a))
 · rw [if_pos y] at H
   have z := z1 y
   clear y
   obtain rfl := z5 H
   go_enter Try.func66, Try.ntmps66
   go_wp2
   go_ret
   exact ⟨zR, zD⟩
 rw [if_neg y] at H
 have z := z2 y
 clear y
 by_cases q : a = (wrap64 (x - a))
 rotate_left
 · rw [if_neg q] at H
   have A := beq_eq_false_iff_ne.mpr q
   have B := bne_iff_ne.mpr q
   obtain rfl := z5 H
   go_enter Try.func66, Try.ntmps66
   go_wp2
   go_ret
   exact ⟨zR, zD⟩
 rw [if_pos q] at H
 have A := beq_iff_eq.mpr q
 have B := bne_eq_false_iff_eq.mpr q
 clear q
 by_cases u : (Go.bits .and .i64 l 1) = 1
 rotate_left
 · rw [if_neg u] at H
   have D := beq_eq_false_iff_ne.mpr u
   have E := bne_iff_ne.mpr u
   obtain rfl := z5 H
   go_enter Try.func66, Try.ntmps66
   go_wp2
   go_ret
   exact ⟨zR, zD⟩
 rw [if_pos u] at H
 have D := beq_iff_eq.mpr u
 have E := bne_eq_false_iff_eq.mpr u
 clear u
 obtain rfl := z5 H
 go_enter Try.func66, Try.ntmps66
 go_wp2
 go_ret
 exact ⟨zR, zD⟩
def spec_Near.f (l : Int) (a : Int) : Option (Int) := if a < 1 then (some 0) else (if a > 4611686018427387904 then (some 0) else (if a = 0 then (none) else (if (Int.tmod l a) < 0 then ((spec_l2Round.f (wrap64 ((wrap64 (Int.tdiv l a)) - 1)) (wrap64 ((Int.tmod l a) + a)) a).bind fun q => (some q)) else ((spec_l2Round.f (wrap64 (Int.tdiv l a)) (Int.tmod l a) a).bind fun u => (some u)))))
theorem spec_Near.calls (l) (a) (r) (w) (h : spec_Near.f l a = some r) :
 Calls Try.prog 36 #[.int .i64 l, .int .i64 a] w fun e w' => e = .returned (.int .i64 r) ∧ Drawn0 w w' := by
 have H : (if a < 1 then (some 0) else (if a > 4611686018427387904 then (some 0) else (if a = 0 then (none) else (if (Int.tmod l a) < 0 then ((spec_l2Round.f (wrap64 ((wrap64 (Int.tdiv l a)) - 1)) (wrap64 ((Int.tmod l a) + a)) a).bind fun q => (some q)) else ((spec_l2Round.f (wrap64 (Int.tdiv l a)) (Int.tmod l a) a).bind fun u => (some u)))))) = some r := h
 clear h
 by_cases x : a < 1
 · rw [if_pos x] at H
   have E := z1 x
   clear x
   obtain rfl := z5 H
   go_enter Try.func36, Try.ntmps36
   go_wp2
   go_ret
   exact ⟨zR, zD⟩
 rw [if_neg x] at H
 have E := z2 x
 clear x
 by_cases y : a > 4611686018427387904
 · rw [if_pos y] at H
   have I := z1 y
   clear y
   obtain rfl := z5 H
   go_enter Try.func36, Try.ntmps36
   go_wp2
   go_ret
   exact ⟨zR, zD⟩
 rw [if_neg y] at H
 have I := z2 y
 clear y
 by_cases A : a = 0
 · rw [if_pos A] at H
   exact absurd H (by simp)
 rw [if_neg A] at H
 have L := beq_eq_false_iff_ne.mpr A
 have M := bne_iff_ne.mpr A
 by_cases z : (Int.tmod l a) < 0
 rotate_left
 · rw [if_neg z] at H
   have J := z2 z
   clear z
   replace H := z6 H
   obtain ⟨u, B, H⟩ := H
   have O := zK B
   clear B
   obtain rfl := z5 H
   go_enter Try.func36, Try.ntmps36
   go_wp2_with (first | ((with_reducible refine gc 66 rfl ?_); refine zF 29 Try.func66 #[.int .i64 (wrap64 (Int.tdiv l a)), .int .i64 (Int.tmod l a), .int .i64 a] rfl zL ?_; (with_reducible refine (spec_l2Round.calls (wrap64 (Int.tdiv l a)) (Int.tmod l a) a u _ O.out).mono ?_); rintro e w' ⟨rfl, ⟨nd, rfl⟩⟩; refine ⟨_, rfl, ?_⟩))
   go_ret
   exact ⟨zR, zD⟩
 rw [if_pos z] at H
 have J := z1 z
 clear z
 replace H := z6 H
 obtain ⟨q, D, H⟩ := H
 have T := zK D
 clear D
 obtain rfl := z5 H
 go_enter Try.func36, Try.ntmps36
 go_wp2_with (first | ((with_reducible refine gc 66 rfl ?_); refine zF 29 Try.func66 #[.int .i64 (wrap64 ((wrap64 (Int.tdiv l a)) - 1)), .int .i64 (wrap64 ((Int.tmod l a) + a)), .int .i64 a] rfl zL ?_; (with_reducible refine (spec_l2Round.calls (wrap64 ((wrap64 (Int.tdiv l a)) - 1)) (wrap64 ((Int.tmod l a) + a)) a q _ T.out).mono ?_); rintro e w' ⟨rfl, ⟨nd, rfl⟩⟩; refine ⟨_, rfl, ?_⟩))
 go_ret
 exact ⟨zR, zD⟩
def spec_Root.l0 : Nat → Int → Int → Int → Option (Int)
 | 0, _, _, _ => none
 | k + 1, q, a, l => if (wrap64 (l - a)) > 1 then (if (wrap64 ((wrap64 (Int.tdiv (wrap64 (a + l)) 2)) * (wrap64 (Int.tdiv (wrap64 (a + l)) 2)))) ≤ q then (spec_Root.l0 k q (wrap64 (Int.tdiv (wrap64 (a + l)) 2)) l) else (spec_Root.l0 k q a (wrap64 (Int.tdiv (wrap64 (a + l)) 2)))) else (some a)
def spec_Root.f (k : Nat) (l : Int) : Option (Int) := (spec_l5In.f l 0 4611686018427387904).bind fun a => (if a = true then (spec_Root.l0 k l 0 2147483649) else (some 0))
theorem spec_Root.calls (k) (q) (r) (w) (h : spec_Root.f k q = some r) :
 Calls Try.prog 41 #[.int .i64 q] w fun e w' => e = .returned (.int .i64 r) ∧ Drawn0 w w' := by
 have H : ((spec_l5In.f q 0 4611686018427387904).bind fun u => (if u = true then (spec_Root.l0 k q 0 2147483649) else (some 0))) = some r := h
 clear h
 replace H := z6 H
 obtain ⟨u, B, H⟩ := H
 have I := zK B
 clear B
 by_cases A : u = true
 rotate_left
 · replace A := Bool.eq_false_iff.mpr A
   subst A
   rw [if_neg (show ¬ (false = true) by decide)] at H
   obtain rfl := z5 H
   go_enter Try.func41, Try.ntmps41
   go_wp2_with (first | ((with_reducible refine gc 63 rfl ?_); refine zF 7 Try.func63 #[.int .i64 q, .int .i64 0, .int .i64 4611686018427387904] rfl zL ?_; (with_reducible refine (spec_l5In.calls q 0 4611686018427387904 false _ I.out).mono ?_); rintro e w' ⟨rfl, ⟨nd, rfl⟩⟩; refine ⟨_, rfl, ?_⟩))
   go_ret
   exact ⟨zR, zD⟩
 subst A
 rw [if_pos rfl] at H
 have H' := zK H
 clear H
 go_enter Try.func41, Try.ntmps41
 go_wp2_with (first | ((with_reducible refine gc 63 rfl ?_); refine zF 7 Try.func63 #[.int .i64 q, .int .i64 0, .int .i64 4611686018427387904] rfl zL ?_; (with_reducible refine (spec_l5In.calls q 0 4611686018427387904 true _ I.out).mono ?_); rintro e w' ⟨rfl, ⟨nd, rfl⟩⟩; refine ⟨_, rfl, ?_⟩))
 go_loopg [3, 4] k (fun kq v3 v4 w' => ∃ (a : Int) (l : Int), v3 = .int .i64 a ∧ v4 = .int .i64 l ∧ Aside0 (spec_Root.l0 kq q a l = some r) ∧ Aside0 (kq ≤ k) ∧ Drawn0 w w')
 case atStart => exact ⟨(0), (2147483649), zR, zR, H', ⟨Nat.le_refl _⟩, zD⟩
 clear H'
 try clear J
 try clear A
 obtain ⟨a, l, rfl, rfl, HA, x, ⟨L, rfl⟩⟩ := hrel
 rcases gk with _ | k1
 · exact absurd HA.out (by simp [spec_Root.l0])
 have H := HA.out
 clear HA
 simp only [spec_Root.l0] at H
 by_cases y : (wrap64 (l - a)) > 1
 rotate_left
 · rw [if_neg y] at H
   have D := z2 y
   clear y
   obtain rfl := z5 H
   go_wp2
   go_ret
   exact ⟨zR, zD⟩
 rw [if_pos y] at H
 have D := z1 y
 clear y
 by_cases z : (wrap64 ((wrap64 (Int.tdiv (wrap64 (a + l)) 2)) * (wrap64 (Int.tdiv (wrap64 (a + l)) 2)))) ≤ q
 · rw [if_pos z] at H
   have E := z1 z
   clear z
   have H' := zK H
   clear H
   go_wp2
   go_roundg k1
   case measure => have := x.out; omega
   case rel => exact ⟨(wrap64 (Int.tdiv (wrap64 (a + l)) 2)), (l), zR, zR, H', ⟨by have := x.out; omega⟩, zD⟩
 rw [if_neg z] at H
 have E := z2 z
 clear z
 have H' := zK H
 clear H
 go_wp2
 go_roundg k1
 case measure => have := x.out; omega
 case rel => exact ⟨(a), (wrap64 (Int.tdiv (wrap64 (a + l)) 2)), zR, zR, H', ⟨by have := x.out; omega⟩, zD⟩
def spec_Norm.l0 : Nat → List Int → Int → Int → Option (Int)
 | 0, _, _, _ => none
 | k + 1, a, q, l => if l < (a.length : Int) then ((spec_l15Grad.f k a).bind fun u => (if u = true then (if 0 ≤ l then (spec_Norm.l0 k a (wrap64 (q + (wrap64 ((rd a l) * (rd a l))))) (wrap64 (l + 1))) else (none)) else ((spec_Root.f k q).bind fun x => (some x)))) else ((spec_Root.f k q).bind fun y => (some y))
def spec_Norm.f (k : Nat) (a : List Int) : Option (Int) := spec_Norm.l0 k a 0 0
theorem spec_Norm.calls (k) (A0) (c0) (y : List Int) (r) (w) (d0 : Kd.C (Kd.int .i64) w A0 y.length y) (e0 : y.length ≤ c0) (h : spec_Norm.f k y = some r) :
 Calls Try.prog 67 #[.slice A0 y.length c0] w fun e w' => e = .returned (.int .i64 r) ∧ Drawn0 w w' := by
 have A := zK d0
 have J := zK e0
 clear d0 e0
 have H : (spec_Norm.l0 k y 0 0) = some r := h
 clear h
 have H' := zK H
 clear H
 go_enter Try.func67, Try.ntmps67
 go_wp2
 repeat (go_quiet (fail); try go_wp2)
 go_loopg [3, 4] k (fun kq v3 v4 w' => ∃ (z : Int) (a : Int), v3 = .int .i64 z ∧ v4 = .int .i64 a ∧ Aside0 (spec_Norm.l0 kq y z a = some r) ∧ Aside0 (kq ≤ k) ∧ Drawn0 w w')
 case atStart => exact ⟨(0), (0), zR, zR, H', ⟨Nat.le_refl _⟩, zD⟩
 clear H'
 obtain ⟨z, a, rfl, rfl, HA, f0, ⟨m1, rfl⟩⟩ := hrel
 rcases gk with _ | k1
 · exact absurd HA.out (by simp [spec_Norm.l0])
 have H := HA.out
 clear HA
 simp only [spec_Norm.l0] at H
 by_cases U : a < (y.length : Int)
 rotate_left
 · rw [if_neg U] at H
   have m0 := z2 U
   clear U
   replace H := z6 H
   obtain ⟨O, g0, H⟩ := H
   have A7 := zK g0
   clear g0
   obtain rfl := z5 H
   go_wp2_with (first | (go_at_call 41; (with_reducible refine (spec_Root.calls k1 z O _ A7.out).mono ?_); rintro e w' ⟨rfl, ⟨nd, rfl⟩⟩; (try first | exact ⟨rfl, _, World.drewN_drewN _ _ _⟩ | exact ⟨rfl, _, Eq.trans (World.drewN_drewN _ _ _) (congrArg (World.drewN _) (Nat.add_assoc _ _ _))⟩)))
   repeat (go_quiet (first | (go_at_call 41; (with_reducible refine (spec_Root.calls k1 z O _ A7.out).mono ?_); rintro e w' ⟨rfl, ⟨nd, rfl⟩⟩; (try first | exact ⟨rfl, _, World.drewN_drewN _ _ _⟩ | exact ⟨rfl, _, Eq.trans (World.drewN_drewN _ _ _) (congrArg (World.drewN _) (Nat.add_assoc _ _ _))⟩))); try go_wp2_with (first | (go_at_call 41; (with_reducible refine (spec_Root.calls k1 z O _ A7.out).mono ?_); rintro e w' ⟨rfl, ⟨nd, rfl⟩⟩; (try first | exact ⟨rfl, _, World.drewN_drewN _ _ _⟩ | exact ⟨rfl, _, Eq.trans (World.drewN_drewN _ _ _) (congrArg (World.drewN _) (Nat.add_assoc _ _ _))⟩))))
   go_ret
   exact ⟨zR, zD⟩
 rw [if_pos U] at H
 have m0 := z1 U
 clear U
 replace H := z6 H
 obtain ⟨o0, i0, H⟩ := H
 have X := zK i0
 clear i0
 by_cases c4 : o0 = true
 rotate_left
 · replace c4 := Bool.eq_false_iff.mpr c4
   subst c4
   rw [if_neg (show ¬ (false = true) by decide)] at H
   replace H := z6 H
   obtain ⟨T, j0, H⟩ := H
   have A6 := zK j0
   clear j0
   obtain rfl := z5 H
   go_wp2_with (first | (go_at_call 35; (with_reducible refine (spec_l15Grad.calls k1 _ _ y false _ ?side1 ?side2 X.out).mono ?_); (case side1 => exact zC A.out); (case side2 => exact J.out); rintro e w' ⟨rfl, ⟨nd, rfl⟩⟩; (try first | exact ⟨rfl, _, World.drewN_drewN _ _ _⟩ | exact ⟨rfl, _, Eq.trans (World.drewN_drewN _ _ _) (congrArg (World.drewN _) (Nat.add_assoc _ _ _))⟩)) | (go_at_call 41; (with_reducible refine (spec_Root.calls k1 z T _ A6.out).mono ?_); rintro e w' ⟨rfl, ⟨nd, rfl⟩⟩; (try first | exact ⟨rfl, _, World.drewN_drewN _ _ _⟩ | exact ⟨rfl, _, Eq.trans (World.drewN_drewN _ _ _) (congrArg (World.drewN _) (Nat.add_assoc _ _ _))⟩)))
   repeat (go_quiet (first | (go_at_call 35; (with_reducible refine (spec_l15Grad.calls k1 _ _ y false _ ?side1 ?side2 X.out).mono ?_); (case side1 => exact zC A.out); (case side2 => exact J.out); rintro e w' ⟨rfl, ⟨nd, rfl⟩⟩; (try first | exact ⟨rfl, _, World.drewN_drewN _ _ _⟩ | exact ⟨rfl, _, Eq.trans (World.drewN_drewN _ _ _) (congrArg (World.drewN _) (Nat.add_assoc _ _ _))⟩)) | (go_at_call 41; (with_reducible refine (spec_Root.calls k1 z T _ A6.out).mono ?_); rintro e w' ⟨rfl, ⟨nd, rfl⟩⟩; (try first | exact ⟨rfl, _, World.drewN_drewN _ _ _⟩ | exact ⟨rfl, _, Eq.trans (World.drewN_drewN _ _ _) (congrArg (World.drewN _) (Nat.add_assoc _ _ _))⟩))); try go_wp2_with (first | (go_at_call 35; (with_reducible refine (spec_l15Grad.calls k1 _ _ y false _ ?side1 ?side2 X.out).mono ?_); (case side1 => exact zC A.out); (case side2 => exact J.out); rintro e w' ⟨rfl, ⟨nd, rfl⟩⟩; (try first | exact ⟨rfl, _, World.drewN_drewN _ _ _⟩ | exact ⟨rfl, _, Eq.trans (World.drewN_drewN _ _ _) (congrArg (World.drewN _) (Nat.add_assoc _ _ _))⟩)) | (go_at_call 41; (with_reducible refine (spec_Root.calls k1 z T _ A6.out).mono ?_); rintro e w' ⟨rfl, ⟨nd, rfl⟩⟩; (try first | exact ⟨rfl, _, World.drewN_drewN _ _ _⟩ | exact ⟨rfl, _, Eq.trans (World.drewN_drewN _ _ _) (congrArg (World.drewN _) (Nat.add_assoc _ _ _))⟩))))
   go_ret
   exact ⟨zR, zD⟩
 subst c4
 rw [if_pos rfl] at H
 by_cases c5 : 0 ≤ a
 rotate_left
 · rw [if_neg c5] at H
   exact absurd H (by simp)
 rw [if_pos c5] at H
 have t0 := z1 c5
 clear c5
 have H' := zK H
 clear H
 go_wp2_with (first | (go_at_call 35; (with_reducible refine (spec_l15Grad.calls k1 _ _ y true _ ?side1 ?side2 X.out).mono ?_); (case side1 => exact zC A.out); (case side2 => exact J.out); rintro e w' ⟨rfl, ⟨nd, rfl⟩⟩; (try first | exact ⟨rfl, _, World.drewN_drewN _ _ _⟩ | exact ⟨rfl, _, Eq.trans (World.drewN_drewN _ _ _) (congrArg (World.drewN _) (Nat.add_assoc _ _ _))⟩); have l : 0 ≤ (a : Int) := z3; have q : a < (y.length : Int) := z3; obtain ⟨B, E, L⟩ := Kd.at_int A.out a l q; cases E; replace l := eq_true l; replace q := eq_true q; have u : 0 ≤ (a : Int) := z3; have x : a < (y.length : Int) := z3; obtain ⟨D, I, M⟩ := Kd.at_int A.out a u x; obtain rfl : B = D := (by injection I); replace u := eq_true u; replace x := eq_true x))
 repeat (go_quiet (first | (go_at_call 35; (with_reducible refine (spec_l15Grad.calls k1 _ _ y true _ ?side1 ?side2 X.out).mono ?_); (case side1 => exact zC A.out); (case side2 => exact J.out); rintro e w' ⟨rfl, ⟨nd, rfl⟩⟩; (try first | exact ⟨rfl, _, World.drewN_drewN _ _ _⟩ | exact ⟨rfl, _, Eq.trans (World.drewN_drewN _ _ _) (congrArg (World.drewN _) (Nat.add_assoc _ _ _))⟩); have l : 0 ≤ (a : Int) := z3; have q : a < (y.length : Int) := z3; obtain ⟨B, E, L⟩ := Kd.at_int A.out a l q; cases E; replace l := eq_true l; replace q := eq_true q; have u : 0 ≤ (a : Int) := z3; have x : a < (y.length : Int) := z3; obtain ⟨D, I, M⟩ := Kd.at_int A.out a u x; obtain rfl : B = D := (by injection I); replace u := eq_true u; replace x := eq_true x)); try go_wp2_with (first | (go_at_call 35; (with_reducible refine (spec_l15Grad.calls k1 _ _ y true _ ?side1 ?side2 X.out).mono ?_); (case side1 => exact zC A.out); (case side2 => exact J.out); rintro e w' ⟨rfl, ⟨nd, rfl⟩⟩; (try first | exact ⟨rfl, _, World.drewN_drewN _ _ _⟩ | exact ⟨rfl, _, Eq.trans (World.drewN_drewN _ _ _) (congrArg (World.drewN _) (Nat.add_assoc _ _ _))⟩); have l : 0 ≤ (a : Int) := z3; have q : a < (y.length : Int) := z3; obtain ⟨B, E, L⟩ := Kd.at_int A.out a l q; cases E; replace l := eq_true l; replace q := eq_true q; have u : 0 ≤ (a : Int) := z3; have x : a < (y.length : Int) := z3; obtain ⟨D, I, M⟩ := Kd.at_int A.out a u x; obtain rfl : B = D := (by injection I); replace u := eq_true u; replace x := eq_true x)))
 go_roundg k1
 case measure => have := f0.out; omega
 case rel => exact ⟨(wrap64 (z + (wrap64 ((rd y a) * (rd y a))))), (wrap64 (a + 1)), zR, zR, H', ⟨by have := f0.out; omega⟩, zD⟩
def spec_Clip.l0 : Nat → List Int → Int → List Int → Int → Int → Option (List Int)
 | 0, _, _, _, _, _ => none
 | k + 1, l, u, q, x, a => if a < (l.length : Int) then (if 0 ≤ a then (if x > u then ((spec_Near.f (wrap64 ((rd l a) * u)) x).bind fun y => (if q.length < 17592186044416 then (spec_Clip.l0 k l u (q ++ [y]) x (wrap64 (a + 1))) else (none))) else (if q.length < 17592186044416 then (spec_Clip.l0 k l u (q ++ [rd l a]) x (wrap64 (a + 1))) else (none))) else (none)) else (some q)
def spec_Clip.f (k : Nat) (l : List Int) (y : Int) : Option (List Int) := (some (([] : List Int) : List Int)).bind fun a => ((spec_l15Grad.f k l).bind fun q => (if q = true then ((spec_l5In.f y 0 1073741824).bind fun u => (if u = true then ((spec_Norm.f k l).bind fun x => (spec_Clip.l0 k l y a x 0)) else (some a))) else (some a)))
theorem spec_Clip.calls (k) (A0) (c0) (l : List Int) (J) (r : List Int) (w) (G0 : Kd.C (Kd.int .i64) w A0 l.length l) (I0 : l.length ≤ c0) (h : spec_Clip.f k l J = some r) :
 Calls Try.prog 37 #[.slice A0 l.length c0, .int .i64 J] w fun e w' => ∃ v0_ : Value, e = .returned (v0_) ∧ Kd.R (Kd.int .i64) 3 w' w.heap.size (fun _ => True) v0_ r ∧ Below w.heap.size w w' := by
 have f0 := zK G0
 have J0 := zK I0
 clear G0 I0
 have HB := zK (Below.refl w.heap.size w)
 have H : ((some (([] : List Int) : List Int)).bind fun y => ((spec_l15Grad.f k l).bind fun L => (if L = true then ((spec_l5In.f J 0 1073741824).bind fun M => (if M = true then ((spec_Norm.f k l).bind fun q => (spec_Clip.l0 k l J y q 0)) else (some y))) else (some y)))) = some r := h
 clear h
 obtain ⟨y, D⟩ : ∃ y_ : List Int, y_ = (([] : List Int)) := ⟨_, rfl⟩
 replace H : ((spec_l15Grad.f k l).bind fun L => (if L = true then ((spec_l5In.f J 0 1073741824).bind fun M => (if M = true then ((spec_Norm.f k l).bind fun q => (spec_Clip.l0 k l J y q 0)) else (some y))) else (some y))) = some r := by first | (rw [D]; with_reducible exact H) | (have z := (Option.bind_some _ _).symm.trans H; rw [D]; with_reducible exact z) | (have z := (Option.bind_some _ _).symm.trans H; with_reducible exact z) | with_reducible exact H | (rw [D]; exact H) | exact H
 have Ny145 := zK D
 clear D
 replace H := z6 H
 obtain ⟨L, L0, H⟩ := H
 have A3 := zK L0
 clear L0
 rcases zN (L = true) with c4 | c4
 replace c4 := Bool.eq_false_iff.mpr c4
 subst c4
 rw [if_neg (show ¬ (false = true) by decide)] at H
 obtain rfl := z5 H
 rotate_left
 subst c4
 rw [if_pos rfl] at H
 replace H := z6 H
 obtain ⟨M, M0, H⟩ := H
 have A5 := zK M0
 clear M0
 rcases zN (M = true) with c6 | c6
 replace c6 := Bool.eq_false_iff.mpr c6
 subst c6
 rw [if_neg (show ¬ (false = true) by decide)] at H
 obtain rfl := z5 H
 rotate_left
 subst c6
 rw [if_pos rfl] at H
 replace H := z6 H
 obtain ⟨q, N0, H⟩ := H
 have A7 := zK N0
 clear N0
 have H' := zK H
 clear H
 all_goals go_enter Try.func37, Try.ntmps37
 all_goals go_wp2_with (first | ((with_reducible refine gd 9 rfl ?_); refine Kd.R_lit (Kd.int .i64) _ 3 ?hg (N := 9) ?hd (xs := ([] : List Int)) (inner := []) (ok := fun _ => True) (okp := fun _ => True) ?hr ?hp (fun _ hk => hk) trivial (Below.refl _ _) (Nat.le_refl _) (by simp) ?_; (case hd => rfl); (case hg => rfl); (case hr => first | (go_simp; done) | (go_simp; rfl)); (case hp => exact (Reps.none _ _)); intro v146 w8 a0 hb hg_ hnew_; clear hg_ hnew_; (first | rw [← Ny145.out] at a0 | (simp only [Int.reduceToNat] at a0; rw [← Ny145.out] at a0)); have b0 := zK (Kd.R_lower a0 (zz zB)); have d0 := z8 hb; revert b0 d0; clear HB; intro g0 HB; clear hb a0) | ((with_reducible refine gc 35 rfl ?_); refine zF 11 Try.func35 #[.slice A0 l.length c0] rfl zL ?_; refine (spec_l15Grad.calls k _ _ l _ _ (zS f0) J0.out A3.out).mono ?_; rintro e w' ⟨rfl, ⟨nd, rfl⟩⟩; refine ⟨_, rfl, ?_⟩) | (go_at_call 63; (with_reducible refine (spec_l5In.calls J 0 1073741824 _ _ A5.out).mono ?_); rintro e w' ⟨rfl, ⟨nd, rfl⟩⟩) | ((with_reducible refine gc 67 rfl ?_); refine zF 20 Try.func67 #[.slice A0 l.length c0] rfl zL ?_; refine (spec_Norm.calls k _ _ l q _ (zS f0) J0.out A7.out).mono ?_; rintro e w' ⟨rfl, ⟨nd, rfl⟩⟩; refine ⟨_, rfl, ?_⟩))
 · go_loopg [5, 7] k (fun kq v5 v7 w' => ∃ (x : List Int) (a : Int), v7 = .int .i64 a ∧ Aside0 (spec_Clip.l0 kq l J x q a = some r) ∧ Aside0 (kq ≤ k) ∧ Aside0 (Kd.R (Kd.int .i64) 3 w' w.heap.size (fun _ => True) v5 x) ∧ Aside0 (Below w.heap.size w w'))
   case atStart => exact ⟨(y), (0), zR, H', ⟨Nat.le_refl _⟩, ⟨zkR g0⟩, ⟨zB⟩⟩
   clear H'
   try clear p2
   try clear c3
   try clear c4
   try clear c6
   obtain ⟨x, a, rfl, HA, i0, O, HB⟩ := hrel
   rcases gk with _ | k1
   · exact absurd HA.out (by simp [spec_Clip.l0])
   have H := HA.out
   clear HA
   simp only [spec_Clip.l0] at H
   by_cases T : a < (l.length : Int)
   rotate_left
   · rw [if_neg T] at H
     have B0 := z2 T
     clear T
     obtain rfl := z5 H
     go_wp2
     go_ret
     exact ⟨_, zE, zkR O, zB⟩
   rw [if_pos T] at H
   have B0 := z1 T
   clear T
   by_cases j0 : 0 ≤ a
   rotate_left
   · rw [if_neg j0] at H
     exact absurd H (by simp)
   rw [if_pos j0] at H
   have R0 := z1 j0
   clear j0
   by_cases U : q > J
   rotate_left
   · rw [if_neg U] at H
     have C0 := z2 U
     clear U
     by_cases m0 : x.length < 17592186044416
     rotate_left
     · rw [if_neg m0] at H
       exact absurd H (by simp)
     rw [if_pos m0] at H
     have LMc16 := zK m0
     clear m0
     obtain ⟨q0, E⟩ : ∃ y_ : List Int, y_ = (x ++ [rd l a]) := ⟨_, rfl⟩
     replace H : (spec_Clip.l0 k1 l J q0 q (wrap64 (a + 1))) = some r := by first | (rw [E]; with_reducible exact H) | (have z := (Option.bind_some _ _).symm.trans H; rw [E]; with_reducible exact z) | (have z := (Option.bind_some _ _).symm.trans H; with_reducible exact z) | with_reducible exact H | (rw [E]; exact H) | exact H
     have Ny156 := zK E
     clear E
     have H' := zK H
     clear H
     have A : 0 ≤ (a : Int) := z3
     have B : a < (l.length : Int) := z3
     obtain ⟨D0, e0, u⟩ := Kd.at_int f0.out a A B
     cases e0
     (try replace u := zX HB u)
     replace A := eq_true A
     replace B := eq_true B
     go_wp2_with (first | ((with_reducible refine gate_builtin (b := .append) (xs := #[.tmp 39, .tmp 41]) rfl ?_); at_builtin; refine Kd.R_append (Kd.int .i64) (w0 := w) w.heap.size rfl (.tmp 39) (.tmp 41) 26 3 (.int .i64 0) 8 rfl Try.underlying26 info3 rfl (by decide) (by omega) u5 x (rd l a) [.int .i64 (rd l a)] (fun _ => True) (fun _ => False) rfl rfl ?aP (fun _ hk => hk.elim) ?aF ?aO ?aB ?aS ?aL ?_; (case aP => exact rfl); (case aB => exact zB); (case aF => exact (fun _ _ => trivial)); (case aO => exact (zkR O)); (case aS => exact (zz zB)); (case aL => have := LMc16.out; omega); intro v157 V0 ho hb hg hat; rw [← Ny156.out] at ho; have b0 := zK (hb); have d0 := zK (ho); revert b0 d0; clear HB O; intro HB E0; clear ho hb hg hat))
     go_roundg k1
     case measure => have := i0.out; omega
     case rel => exact ⟨(q0), (wrap64 (a + 1)), zR, H', ⟨by have := i0.out; omega⟩, ⟨zkR E0⟩, ⟨zB⟩⟩
   rw [if_pos U] at H
   have C0 := z1 U
   clear U
   replace H := z6 H
   obtain ⟨X, s0, H⟩ := H
   have O0 := zK s0
   clear s0
   by_cases n0 : x.length < 17592186044416
   rotate_left
   · rw [if_neg n0] at H
     exact absurd H (by simp)
   rw [if_pos n0] at H
   have LMc14 := zK n0
   clear n0
   obtain ⟨t0, I⟩ : ∃ y_ : List Int, y_ = (x ++ [X]) := ⟨_, rfl⟩
   replace H : (spec_Clip.l0 k1 l J t0 q (wrap64 (a + 1))) = some r := by first | (rw [I]; with_reducible exact H) | (have z := (Option.bind_some _ _).symm.trans H; rw [I]; with_reducible exact z) | (have z := (Option.bind_some _ _).symm.trans H; with_reducible exact z) | with_reducible exact H | (rw [I]; exact H) | exact H
   have Ny153 := zK I
   clear I
   have H' := zK H
   clear H
   have A : 0 ≤ (a : Int) := z3
   have B : a < (l.length : Int) := z3
   obtain ⟨D0, e0, u⟩ := Kd.at_int f0.out a A B
   cases e0
   (try replace u := zX HB u)
   replace A := eq_true A
   replace B := eq_true B
   go_wp2_with (first | ((with_reducible refine gc 36 rfl ?_); refine zF 38 Try.func36 #[.int .i64 (wrap64 ((rd l a) * J)), .int .i64 q] rfl zL ?_; (with_reducible refine (spec_Near.calls (wrap64 ((rd l a) * J)) q X _ O0.out).mono ?_); rintro e w' ⟨rfl, ⟨nd, rfl⟩⟩; refine ⟨_, rfl, ?_⟩) | ((with_reducible refine gate_builtin (b := .append) (xs := #[.tmp 39, .tmp 41]) rfl ?_); at_builtin; refine Kd.R_append (Kd.int .i64) (w0 := w) w.heap.size rfl (.tmp 39) (.tmp 41) 26 3 (.int .i64 0) 8 rfl Try.underlying26 info3 rfl (by decide) (by omega) u5 x X [.int .i64 X] (fun _ => True) (fun _ => False) rfl rfl ?aP (fun _ hk => hk.elim) ?aF ?aO ?aB ?aS ?aL ?_; (case aP => exact rfl); (case aB => exact zB); (case aF => exact (fun _ _ => trivial)); (case aO => exact (zkR O)); (case aS => exact (zz zB)); (case aL => have := LMc14.out; omega); intro v154 X0 ho hb hg hat; rw [← Ny153.out] at ho; have b0 := zK (hb); have d0 := zK (ho); revert b0 d0; clear HB O; intro HB F0; clear ho hb hg hat))
   go_roundg k1
   case measure => have := i0.out; omega
   case rel => exact ⟨(t0), (wrap64 (a + 1)), zR, H', ⟨by have := i0.out; omega⟩, ⟨zkR F0⟩, ⟨zB⟩⟩
 all_goals go_ret
 all_goals exact ⟨_, zE, zkR g0, zB⟩
end Go.Proofs.Ytodfhokndnmdoaa.PFnFactor
