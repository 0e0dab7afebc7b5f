-- Printed out of the translation by this session's own turned copy of a printer; Lean checks it.
import Derived.Test.YtdlhmhgpafegpaaPFnExactLmOkx0
namespace Go.Proofs.Ytdlhmhgpafegpaa.PFnExactLmOk
open Go.RowKit Go.Proofs.YtdlhmhgpafegpaaW.PrintWords Go.Proofs.YtdlhmhgpafegpaaW.PrintLast Go.Proofs.YtdlhmhgpafegpaaW.PrintMore
attribute [local go_sem] max2_int min2_int max_two min_two max_three min_three max_four min_four
set_option linter.unusedVariables false
set_option linter.unusedSimpArgs false
set_option maxHeartbeats 8000000
set_option maxRecDepth 100000
def laws_szIntS.f (a : List Int) (l : Int) : Option (Int) := if (wrap64 (l - (a.length : Int))) < 0 then (some (-1)) else (some (wrap64 (l - (a.length : Int))))
theorem laws_szIntS.calls (z) (A) (a : List Int) (q) (r) (w) (u : Kd.C (Kd.int .i64) w z a.length a) (x : a.length ≤ A) (h : laws_szIntS.f a q = some r) :
 Calls Try.prog 61 #[.slice z a.length A, .int .i64 q] w fun e w' => e = .returned (.int .i64 r) ∧ Drawn0 w w' := by
 have B := zK u
 have D := zK x
 clear u x
 have H : (if (wrap64 (q - (a.length : Int))) < 0 then (some (-1)) else (some (wrap64 (q - (a.length : Int))))) = some r := h
 clear h
 by_cases l : (wrap64 (q - (a.length : Int))) < 0
 · rw [if_pos l] at H
   have y := z1 l
   clear l
   obtain rfl := z5 H
   go_enter Try.func61, Try.ntmps61
   go_wp2
   go_ret
   exact ⟨zR, zD⟩
 rw [if_neg l] at H
 have y := z2 l
 clear l
 obtain rfl := z5 H
 go_enter Try.func61, Try.ntmps61
 go_wp2
 go_ret
 exact ⟨zR, zD⟩
def laws_szRow.f (q : List Int) (u : List Int) (x : Int) : Option (Int) := (laws_szIntS.f q x).bind fun a => (if a < 0 then (some (-1)) else ((laws_szIntS.f u a).bind fun l => (if l < 0 then (some (-1)) else (some l))))
theorem laws_szRow.calls (x) (y) (a : List Int) (z) (A) (l : List Int) (M) (r) (w) (B : Kd.C (Kd.int .i64) w x a.length a) (D : a.length ≤ y) (E : Kd.C (Kd.int .i64) w z l.length l) (I : l.length ≤ A) (h : laws_szRow.f a l M = some r) :
 Calls Try.prog 48 #[.agg #[.slice x a.length y, .slice z l.length A], .int .i64 M] w fun e w' => e = .returned (.int .i64 r) ∧ Below w.heap.size w w' := by
 have t0 := Try.underlying71
 have O := zK B
 have T := zK D
 clear B D
 have U := zK E
 have X := zK I
 clear E I
 have HB := zK (Below.refl w.heap.size w)
 have H : ((laws_szIntS.f a M).bind fun q => (if q < 0 then (some (-1)) else ((laws_szIntS.f l q).bind fun u => (if u < 0 then (some (-1)) else (some u))))) = some r := h
 clear h
 replace H := z6 H
 obtain ⟨q, b0, H⟩ := H
 have A3 := zK b0
 clear b0
 by_cases J : q < 0
 rw [if_pos J] at H
 have d0 := z1 J
 clear J
 obtain rfl := z5 H
 rotate_left
 rw [if_neg J] at H
 have d0 := z2 J
 clear J
 replace H := z6 H
 obtain ⟨u, c0, H⟩ := H
 have A7 := zK c0
 clear c0
 by_cases L : u < 0
 rw [if_pos L] at H
 have e0 := z1 L
 clear L
 obtain rfl := z5 H
 rotate_left
 rw [if_neg L] at H
 have e0 := z2 L
 clear L
 obtain rfl := z5 H
 all_goals go_enter Try.func48, Try.ntmps48
 all_goals go_wp2_with (first | ((with_reducible refine gd 2 rfl ?_); refine zJ 2 #[.slice x a.length y, .slice z l.length A] 71 ?_; intro p0 hg A0 hbox hb; have l0 := z8 hb; have m0 := zK (hbox); have n0 := z9 hg; have o0 := z9 hg; revert l0 m0 n0 o0; clear HB; intro HB a0 q0 s0; clear hb hbox hg; obtain ⟨f0, g0, i0, j0⟩ := zc2 a0) | ((with_reducible refine gc 61 rfl ?_); refine zF 8 Try.func61 #[.slice x a.length y, .int .i64 M] rfl zL ?_; refine (laws_szIntS.calls _ _ a M q _ (zS O) T.out A3.out).mono ?_; rintro e w' ⟨rfl, ⟨nd, rfl⟩⟩; refine ⟨_, rfl, ?_⟩) | ((with_reducible refine gc 61 rfl ?_); refine zF 14 Try.func61 #[.slice z l.length A, .int .i64 q] rfl zL ?_; refine (laws_szIntS.calls _ _ l q u _ (zS U) X.out A7.out).mono ?_; rintro e w' ⟨rfl, ⟨nd, rfl⟩⟩; refine ⟨_, rfl, ?_⟩))
 all_goals go_ret
 all_goals exact ⟨zE, zB⟩
def laws_szRowS.l0 : Nat → List (S71) → Int → Int → Option (Int)
 | 0, _, _, _ => none
 | k + 1, q, u, a => if a < (q.length : Int) then (if 0 ≤ a then ((laws_szRow.f ((rd_T71 q a).f0) ((rd_T71 q a).f1) u).bind fun l => (if l < 0 then (some (-1)) else (laws_szRowS.l0 k q l (wrap64 (a + 1))))) else (none)) else (some u)
def laws_szRowS.f (k : Nat) (a : List (S71)) (l : Int) : Option (Int) := if (wrap64 (l - (a.length : Int))) < 0 then (some (-1)) else (laws_szRowS.l0 k a (wrap64 (l - (a.length : Int))) 0)
theorem laws_szRowS.calls (k) (A0) (c0) (l : List (S71)) (a1) (r) (w) (p0 : Kd.C k71 w A0 l.length l) (q0 : l.length ≤ c0) (h : laws_szRowS.f k l a1 = some r) :
 Calls Try.prog 26 #[.slice A0 l.length c0, .int .i64 a1] w fun e w' => e = .returned (.int .i64 r) ∧ Below w.heap.size w w' := by
 have F0 := Try.underlying71
 have s0 := zK p0
 have I0 := zK q0
 clear p0 q0
 have HB := zK (Below.refl w.heap.size w)
 have H : (if (wrap64 (a1 - (l.length : Int))) < 0 then (some (-1)) else (laws_szRowS.l0 k l (wrap64 (a1 - (l.length : Int))) 0)) = some r := h
 clear h
 by_cases c3 : (wrap64 (a1 - (l.length : Int))) < 0
 · rw [if_pos c3] at H
   have j0 := z1 c3
   clear c3
   obtain rfl := z5 H
   go_enter Try.func26, Try.ntmps26
   go_wp2
   go_ret
   exact ⟨zE, zB⟩
 rw [if_neg c3] at H
 have j0 := z2 c3
 clear c3
 have H' := zK H
 clear H
 go_enter Try.func26, Try.ntmps26
 go_wp2
 go_loopg [1, 5] k (fun kq v1 v5 w' => ∃ (B : Int) (a : Int), v1 = .int .i64 B ∧ v5 = .int .i64 a ∧ Aside0 (laws_szRowS.l0 kq l B a = some r) ∧ Aside0 (kq ≤ k) ∧ Aside0 (Below w.heap.size w w'))
 case atStart => exact ⟨(wrap64 (a1 - (l.length : Int))), (0), zR, zR, H', ⟨Nat.le_refl _⟩, ⟨zB⟩⟩
 clear H'
 try clear c2
 try clear p2
 try clear c3
 try clear j0
 obtain ⟨B, a, rfl, rfl, HA, t0, HB⟩ := hrel
 rcases gk with _ | k1
 · exact absurd HA.out (by simp [laws_szRowS.l0])
 have H := HA.out
 clear HA
 simp only [laws_szRowS.l0] at H
 by_cases c4 : a < (l.length : Int)
 rotate_left
 · rw [if_neg c4] at H
   have y0 := z2 c4
   clear c4
   obtain rfl := z5 H
   go_wp2
   go_ret
   exact ⟨zE, zB⟩
 rw [if_pos c4] at H
 have y0 := z1 c4
 clear c4
 by_cases c5 : 0 ≤ a
 rotate_left
 · rw [if_neg c5] at H
   exact absurd H (by simp)
 rw [if_pos c5] at H
 have G0 := z1 c5
 clear c5
 replace H := z6 H
 obtain ⟨a0, x0, H⟩ := H
 have A6 := zK x0
 clear x0
 by_cases c7 : a0 < 0
 · rw [if_pos c7] at H
   have B0 := z1 c7
   clear c7
   obtain rfl := z5 H
   have D : 0 ≤ (a : Int) := z3
   have E : a < (l.length : Int) := z3
   obtain ⟨o0, O, T, U, X, d0, q, u, x, y, z, A⟩ := at_T71 s0.out a D E
   cases d0
   (try replace q := zX HB q)
   (try replace u := zX HB u)
   have I := zK y
   have J := zK x
   clear y x
   have L := zK A
   have M := zK z
   clear A z
   replace D := eq_true D
   replace E := eq_true E
   go_wp2_with (first | ((with_reducible refine gc 48 rfl ?_); refine zF 23 Try.func48 #[.agg #[.slice O ((rd_T71 l a).f0).length T, .slice U ((rd_T71 l a).f1).length X], .int .i64 B] rfl zL ?_; refine (laws_szRow.calls _ _ ((rd_T71 l a).f0) _ _ ((rd_T71 l a).f1) B a0 _ (zS I) J.out (zS L) M.out A6.out).mono ?_; rintro e w8 ⟨rfl, hb⟩; refine ⟨_, rfl, ?_⟩; have m0 := z8 hb; revert m0; clear HB; intro HB))
   go_ret
   exact ⟨zE, zB⟩
 rw [if_neg c7] at H
 have B0 := z2 c7
 clear c7
 have H' := zK H
 clear H
 have D : 0 ≤ (a : Int) := z3
 have E : a < (l.length : Int) := z3
 obtain ⟨o0, O, T, U, X, d0, q, u, x, y, z, A⟩ := at_T71 s0.out a D E
 cases d0
 (try replace q := zX HB q)
 (try replace u := zX HB u)
 have I := zK y
 have J := zK x
 clear y x
 have L := zK A
 have M := zK z
 clear A z
 replace D := eq_true D
 replace E := eq_true E
 go_wp2_with (first | ((with_reducible refine gc 48 rfl ?_); refine zF 23 Try.func48 #[.agg #[.slice O ((rd_T71 l a).f0).length T, .slice U ((rd_T71 l a).f1).length X], .int .i64 B] rfl zL ?_; refine (laws_szRow.calls _ _ ((rd_T71 l a).f0) _ _ ((rd_T71 l a).f1) B a0 _ (zS I) J.out (zS L) M.out A6.out).mono ?_; rintro e w9 ⟨rfl, hb⟩; refine ⟨_, rfl, ?_⟩; have m0 := z8 hb; revert m0; clear HB; intro HB))
 go_roundg k1
 case measure => have := t0.out; omega
 case rel => exact ⟨(a0), (wrap64 (a + 1)), zR, zR, H', ⟨by have := t0.out; omega⟩, ⟨zB⟩⟩
def laws_szLm.f (k : Nat) (q : Int) (l : List (S71)) (u : Int) : Option (Int) := (laws_szRowS.f k l u).bind fun a => (if a < 0 then (some (-1)) else (some a))
theorem laws_szLm.calls (k) (y) (u) (x) (a : List (S71)) (D) (r) (w) (z : Kd.C k71 w u a.length a) (A : a.length ≤ x) (h : laws_szLm.f k y a D = some r) :
 Calls Try.prog 7 #[.agg #[.int .i64 y, .slice u a.length x], .int .i64 D] w fun e w' => e = .returned (.int .i64 r) ∧ Below w.heap.size w w' := by
 have g0 := Try.underlying24
 have J := zK z
 have L := zK A
 clear z A
 have HB := zK (Below.refl w.heap.size w)
 have H : ((laws_szRowS.f k a D).bind fun q => (if q < 0 then (some (-1)) else (some q))) = some r := h
 clear h
 replace H := z6 H
 obtain ⟨q, M, H⟩ := H
 have A3 := zK M
 clear M
 by_cases B : q < 0
 rw [if_pos B] at H
 have O := z1 B
 clear B
 obtain rfl := z5 H
 rotate_left
 rw [if_neg B] at H
 have O := z2 B
 clear B
 obtain rfl := z5 H
 all_goals go_enter Try.func7, Try.ntmps7
 all_goals go_wp2_with (first | ((with_reducible refine gd 2 rfl ?_); refine zJ 2 #[.int .i64 y, .slice u a.length x] 24 ?_; intro d0 hg w8 hbox hb; have E := z8 hb; have I := zK (hbox); have T := z9 hg; have U := z9 hg; revert E I T U; clear HB; intro HB l e0 f0; clear hb hbox hg; obtain ⟨X, a0, b0, c0⟩ := zc2 l) | ((with_reducible refine gc 26 rfl ?_); refine zF 8 Try.func26 #[.slice u a.length x, .int .i64 D] rfl zL ?_; refine (laws_szRowS.calls k _ _ a D q _ (zS J) L.out A3.out).mono ?_; rintro e j0 ⟨rfl, hb⟩; refine ⟨_, rfl, ?_⟩; have E := z7 l hb; have I := z8 hb; revert E I; clear l HB; intro l HB))
 all_goals go_ret
 all_goals exact ⟨zE, zB⟩
def spec_l5In.f (a : Int) (l : Int) (q : Int) : Option (Bool) := if a ≥ l then (some (decide (a ≤ q))) else (some false)
theorem spec_l5In.calls (l) (q) (u) (r : Bool) (w) (h : spec_l5In.f l q u = some r) :
 Calls Try.prog 27 #[.int .i64 l, .int .i64 q, .int .i64 u] w fun e w' => e = .returned (.bool r) ∧ Drawn0 w w' := by
 have H : (if l ≥ q then (some (decide (l ≤ u))) else (some false)) = some r := h
 clear h
 by_cases a : l ≥ q
 · rw [if_pos a] at H
   have x := z1 a
   clear a
   obtain rfl := z5 H
   go_enter Try.func27, Try.ntmps27
   go_wp2
   go_ret
   exact ⟨zR, zD⟩
 rw [if_neg a] at H
 have x := z2 a
 clear a
 obtain rfl := z5 H
 go_enter Try.func27, Try.ntmps27
 go_wp2
 go_ret
 exact ⟨zR, zD⟩
def spec_l21Tokens.l0 : Nat → List Int → Int → Int → Option (Bool)
 | 0, _, _, _ => none
 | k + 1, l, u, a => if a < (l.length : Int) then (if 0 ≤ a then ((spec_l5In.f (rd l a) 0 (wrap64 (u - 1))).bind fun q => (if q = true then (spec_l21Tokens.l0 k l u (wrap64 (a + 1))) else (some false))) else (none)) else (some true)
def spec_l21Tokens.f (k : Nat) (a : List Int) (l : Int) : Option (Bool) := spec_l21Tokens.l0 k a l 0
theorem spec_l21Tokens.calls (k) (X) (c0) (u : List Int) (x) (r : Bool) (w) (I : Kd.C (Kd.int .i64) w X u.length u) (J : u.length ≤ c0) (h : spec_l21Tokens.f k u x = some r) :
 Calls Try.prog 28 #[.slice X u.length c0, .int .i64 x] w fun e w' => e = .returned (.bool r) ∧ Drawn0 w w' := by
 have L := zK I
 have e0 := zK J
 clear I J
 have H : (spec_l21Tokens.l0 k u x 0) = some r := h
 clear h
 have H' := zK H
 clear H
 go_enter Try.func28, Try.ntmps28
 go_wp2
 go_loopg [5] k (fun kq v5 w' => ∃ (a : Int), v5 = .int .i64 a ∧ Aside0 (spec_l21Tokens.l0 kq u x a = some r) ∧ Aside0 (kq ≤ k) ∧ Drawn0 w w')
 case atStart => exact ⟨(0), zR, H', ⟨Nat.le_refl _⟩, zD⟩
 clear H'
 try clear c2
 try clear p2
 obtain ⟨a, rfl, HA, M, ⟨m1, rfl⟩⟩ := hrel
 rcases gk with _ | k1
 · exact absurd HA.out (by simp [spec_l21Tokens.l0])
 have H := HA.out
 clear HA
 simp only [spec_l21Tokens.l0] at H
 by_cases z : a < (u.length : Int)
 rotate_left
 · rw [if_neg z] at H
   have T := z2 z
   clear z
   obtain rfl := z5 H
   go_wp2
   go_ret
   exact ⟨zR, zD⟩
 rw [if_pos z] at H
 have T := z1 z
 clear z
 by_cases B : 0 ≤ a
 rotate_left
 · rw [if_neg B] at H
   exact absurd H (by simp)
 rw [if_pos B] at H
 have d0 := z1 B
 clear B
 replace H := z6 H
 obtain ⟨U, O, H⟩ := H
 have A5 := zK O
 clear O
 by_cases D : U = true
 rotate_left
 · replace D := Bool.eq_false_iff.mpr D
   subst D
   rw [if_neg (show ¬ (false = true) by decide)] at H
   obtain rfl := z5 H
   have l : 0 ≤ (a : Int) := z3
   have q : a < (u.length : Int) := z3
   obtain ⟨E, y, A⟩ := Kd.at_int L.out a l q
   cases y
   replace l := eq_true l
   replace q := eq_true q
   go_wp2_with (first | ((with_reducible refine gc 27 rfl ?_); refine zF 18 Try.func27 #[.int .i64 (rd u a), .int .i64 0, .int .i64 (wrap64 (x - 1))] rfl zL ?_; (with_reducible refine (spec_l5In.calls (rd u a) 0 (wrap64 (x - 1)) false _ A5.out).mono ?_); rintro e w' ⟨rfl, ⟨nd, rfl⟩⟩; refine ⟨_, rfl, ?_⟩))
   go_ret
   exact ⟨zR, zD⟩
 subst D
 rw [if_pos rfl] at H
 have H' := zK H
 clear H
 have l : 0 ≤ (a : Int) := z3
 have q : a < (u.length : Int) := z3
 obtain ⟨E, y, A⟩ := Kd.at_int L.out a l q
 cases y
 replace l := eq_true l
 replace q := eq_true q
 go_wp2_with (first | ((with_reducible refine gc 27 rfl ?_); refine zF 18 Try.func27 #[.int .i64 (rd u a), .int .i64 0, .int .i64 (wrap64 (x - 1))] rfl zL ?_; (with_reducible refine (spec_l5In.calls (rd u a) 0 (wrap64 (x - 1)) true _ A5.out).mono ?_); rintro e w' ⟨rfl, ⟨nd, rfl⟩⟩; refine ⟨_, rfl, ?_⟩))
 go_roundg k1
 case measure => have := M.out; omega
 case rel => exact ⟨(wrap64 (a + 1)), zR, H', ⟨by have := M.out; omega⟩, zD⟩
def spec_l21Sum.l0 : Nat → List Int → Int → Int → Option (Int)
 | 0, _, _, _ => none
 | k + 1, l, q, a => if a < (l.length : Int) then (if 0 ≤ a then (spec_l21Sum.l0 k l (wrap64 (q + (rd l a))) (wrap64 (a + 1))) else (none)) else (some q)
def spec_l21Sum.f (k : Nat) (a : List Int) : Option (Int) := spec_l21Sum.l0 k a 0 0
theorem spec_l21Sum.calls (k) (L) (M) (l : List Int) (r) (w) (A : Kd.C (Kd.int .i64) w L l.length l) (B : l.length ≤ M) (h : spec_l21Sum.f k l = some r) :
 Calls Try.prog 49 #[.slice L l.length M] w fun e w' => e = .returned (.int .i64 r) ∧ Drawn0 w w' := by
 have O := zK A
 have X := zK B
 clear A B
 have H : (spec_l21Sum.l0 k l 0 0) = some r := h
 clear h
 have H' := zK H
 clear H
 go_enter Try.func49, Try.ntmps49
 go_wp2
 go_loopg [3, 4] k (fun kq v3 v4 w' => ∃ (q : Int) (a : Int), v3 = .int .i64 q ∧ v4 = .int .i64 a ∧ Aside0 (spec_l21Sum.l0 kq l q a = some r) ∧ Aside0 (kq ≤ k) ∧ Drawn0 w w')
 case atStart => exact ⟨(0), (0), zR, zR, H', ⟨Nat.le_refl _⟩, zD⟩
 clear H'
 obtain ⟨q, a, rfl, rfl, HA, D, ⟨m1, rfl⟩⟩ := hrel
 rcases gk with _ | k1
 · exact absurd HA.out (by simp [spec_l21Sum.l0])
 have H := HA.out
 clear HA
 simp only [spec_l21Sum.l0] at H
 by_cases y : a < (l.length : Int)
 rotate_left
 · rw [if_neg y] at H
   have E := z2 y
   clear y
   obtain rfl := z5 H
   go_wp2
   go_ret
   exact ⟨zR, zD⟩
 rw [if_pos y] at H
 have E := z1 y
 clear y
 by_cases z : 0 ≤ a
 rotate_left
 · rw [if_neg z] at H
   exact absurd H (by simp)
 rw [if_pos z] at H
 have U := z1 z
 clear z
 have H' := zK H
 clear H
 have u : 0 ≤ (a : Int) := z3
 have x : a < (l.length : Int) := z3
 obtain ⟨T, I, J⟩ := Kd.at_int O.out a u x
 cases I
 replace u := eq_true u
 replace x := eq_true x
 go_wp2
 go_roundg k1
 case measure => have := D.out; omega
 case rel => exact ⟨(wrap64 (q + (rd l a))), (wrap64 (a + 1)), zR, zR, H', ⟨by have := D.out; omega⟩, zD⟩
def spec_l21Weights.l0 : Nat → List Int → Int → Option (Bool)
 | 0, _, _ => none
 | k + 1, a, l => if l < (a.length : Int) then (if 0 ≤ l then ((spec_l5In.f (rd a l) 0 1000).bind fun q => (if q = true then (spec_l21Weights.l0 k a (wrap64 (l + 1))) else (some false))) else (none)) else ((spec_l21Sum.f k a).bind fun u => (some (decide (u > 0))))
def spec_l21Weights.f (k : Nat) (a : List Int) : Option (Bool) := spec_l21Weights.l0 k a 0
theorem spec_l21Weights.calls (k) (T) (U) (l : List Int) (r : Bool) (w) (I : Kd.C (Kd.int .i64) w T l.length l) (J : l.length ≤ U) (h : spec_l21Weights.f k l = some r) :
 Calls Try.prog 29 #[.slice T l.length U] w fun e w' => e = .returned (.bool r) ∧ Drawn0 w w' := by
 have A := zK I
 have d0 := zK J
 clear I J
 have H : (spec_l21Weights.l0 k l 0) = some r := h
 clear h
 have H' := zK H
 clear H
 go_enter Try.func29, Try.ntmps29
 go_wp2
 go_loopg [3] k (fun kq v3 w' => ∃ (a : Int), v3 = .int .i64 a ∧ Aside0 (spec_l21Weights.l0 kq l a = some r) ∧ Aside0 (kq ≤ k) ∧ Drawn0 w w')
 case atStart => exact ⟨(0), zR, H', ⟨Nat.le_refl _⟩, zD⟩
 clear H'
 obtain ⟨a, rfl, HA, L, ⟨m1, rfl⟩⟩ := hrel
 rcases gk with _ | k1
 · exact absurd HA.out (by simp [spec_l21Weights.l0])
 have H := HA.out
 clear HA
 simp only [spec_l21Weights.l0] at H
 by_cases y : a < (l.length : Int)
 rotate_left
 · rw [if_neg y] at H
   have X := z2 y
   clear y
   replace H := z6 H
   obtain ⟨a0, M, H⟩ := H
   have A6 := zK M
   clear M
   obtain rfl := z5 H
   go_wp2_with (first | ((with_reducible refine gc 49 rfl ?_); refine zF 17 Try.func49 #[.slice T l.length U] rfl zL ?_; refine (spec_l21Sum.calls k1 _ _ l a0 _ (zC A.out) d0.out A6.out).mono ?_; rintro e w' ⟨rfl, ⟨nd, rfl⟩⟩; refine ⟨_, rfl, ?_⟩))
   go_ret
   exact ⟨zR, zD⟩
 rw [if_pos y] at H
 have X := z1 y
 clear y
 by_cases B : 0 ≤ a
 rotate_left
 · rw [if_neg B] at H
   exact absurd H (by simp)
 rw [if_pos B] at H
 have g0 := z1 B
 clear B
 replace H := z6 H
 obtain ⟨b0, O, H⟩ := H
 have A4 := zK O
 clear O
 by_cases D : b0 = true
 rotate_left
 · replace D := Bool.eq_false_iff.mpr D
   subst D
   rw [if_neg (show ¬ (false = true) by decide)] at H
   obtain rfl := z5 H
   have q : 0 ≤ (a : Int) := z3
   have u : a < (l.length : Int) := z3
   obtain ⟨E, x, z⟩ := Kd.at_int A.out a q u
   cases x
   replace q := eq_true q
   replace u := eq_true u
   go_wp2_with (first | ((with_reducible refine gc 27 rfl ?_); refine zF 14 Try.func27 #[.int .i64 (rd l a), .int .i64 0, .int .i64 1000] rfl zL ?_; (with_reducible refine (spec_l5In.calls (rd l a) 0 1000 false _ A4.out).mono ?_); rintro e w' ⟨rfl, ⟨nd, rfl⟩⟩; refine ⟨_, rfl, ?_⟩))
   go_ret
   exact ⟨zR, zD⟩
 subst D
 rw [if_pos rfl] at H
 have H' := zK H
 clear H
 have q : 0 ≤ (a : Int) := z3
 have u : a < (l.length : Int) := z3
 obtain ⟨E, x, z⟩ := Kd.at_int A.out a q u
 cases x
 replace q := eq_true q
 replace u := eq_true u
 go_wp2_with (first | ((with_reducible refine gc 27 rfl ?_); refine zF 14 Try.func27 #[.int .i64 (rd l a), .int .i64 0, .int .i64 1000] rfl zL ?_; (with_reducible refine (spec_l5In.calls (rd l a) 0 1000 true _ A4.out).mono ?_); rintro e w' ⟨rfl, ⟨nd, rfl⟩⟩; refine ⟨_, rfl, ?_⟩))
 go_roundg k1
 case measure => have := L.out; omega
 case rel => exact ⟨(wrap64 (a + 1)), zR, H', ⟨by have := L.out; omega⟩, zD⟩
def spec_l3SameInts.l0 : Nat → List Int → List Int → Int → Option (Bool)
 | 0, _, _, _ => none
 | k + 1, l, q, a => if a < (l.length : Int) then (if 0 ≤ a then (if a < (q.length : Int) then (if (rd l a) = (rd q a) then (spec_l3SameInts.l0 k l q (wrap64 (a + 1))) else (some false)) else (none)) else (none)) else (some true)
def spec_l3SameInts.f (k : Nat) (a : List Int) (l : List Int) : Option (Bool) := if (a.length : Int) = (l.length : Int) then (spec_l3SameInts.l0 k a l 0) else (some false)
theorem spec_l3SameInts.calls (k) (A0) (c0) (l : List Int) (A1) (c1) (q : List Int) (r : Bool) (w) (d0 : Kd.C (Kd.int .i64) w A0 l.length l) (e0 : l.length ≤ c0) (f0 : Kd.C (Kd.int .i64) w A1 q.length q) (g0 : q.length ≤ c1) (h : spec_l3SameInts.f k l q = some r) :
 Calls Try.prog 30 #[.slice A0 l.length c0, .slice A1 q.length c1] w fun e w' => e = .returned (.bool r) ∧ Drawn0 w w' := by
 have i0 := zK d0
 have C0 := zK e0
 clear d0 e0
 have j0 := zK f0
 have D0 := zK g0
 clear f0 g0
 have H : (if (l.length : Int) = (q.length : Int) then (spec_l3SameInts.l0 k l q 0) else (some false)) = some r := h
 clear h
 by_cases A : (l.length : Int) = (q.length : Int)
 rotate_left
 · rw [if_neg A] at H
   have M := beq_eq_false_iff_ne.mpr A
   have O := bne_iff_ne.mpr A
   have T : (l.length == q.length) = false := by first | simpa using A | (simp at A ⊢; omega)
   obtain rfl := z5 H
   go_enter Try.func30, Try.ntmps30
   go_wp2
   repeat (go_quiet (fail); try go_wp2)
   go_ret
   exact ⟨zR, zD⟩
 rw [if_pos A] at H
 have M := beq_iff_eq.mpr A
 have O := bne_eq_false_iff_eq.mpr A
 have T : (l.length == q.length) = true := by first | simpa using A | (simp at A ⊢; omega)
 clear A
 have H' := zK H
 clear H
 go_enter Try.func30, Try.ntmps30
 go_wp2
 repeat (go_quiet (fail); try go_wp2)
 go_loopg [5] k (fun kq v5 w' => ∃ (a : Int), v5 = .int .i64 a ∧ Aside0 (spec_l3SameInts.l0 kq l q a = some r) ∧ Aside0 (kq ≤ k) ∧ Drawn0 w w')
 case atStart => exact ⟨(0), zR, H', ⟨Nat.le_refl _⟩, zD⟩
 clear H'
 try clear c1
 try clear p2
 try clear A
 try clear M
 try clear O
 try clear T
 obtain ⟨a, rfl, HA, m0, ⟨m1, rfl⟩⟩ := hrel
 rcases gk with _ | k1
 · exact absurd HA.out (by simp [spec_l3SameInts.l0])
 have H := HA.out
 clear HA
 simp only [spec_l3SameInts.l0] at H
 by_cases I : a < (l.length : Int)
 rotate_left
 · rw [if_neg I] at H
   have o0 := z2 I
   clear I
   obtain rfl := z5 H
   go_wp2
   repeat (go_quiet (fail); try go_wp2)
   go_ret
   exact ⟨zR, zD⟩
 rw [if_pos I] at H
 have o0 := z1 I
 clear I
 by_cases U : 0 ≤ a
 rotate_left
 · rw [if_neg U] at H
   exact absurd H (by simp)
 rw [if_pos U] at H
 have y0 := z1 U
 clear U
 by_cases X : a < (q.length : Int)
 rotate_left
 · rw [if_neg X] at H
   exact absurd H (by simp)
 rw [if_pos X] at H
 have B0 := z1 X
 clear X
 by_cases B : (rd l a) = (rd q a)
 rotate_left
 · rw [if_neg B] at H
   have p0 := beq_eq_false_iff_ne.mpr B
   have q0 := bne_iff_ne.mpr B
   obtain rfl := z5 H
   have u : 0 ≤ (a : Int) := z3
   have x : a < (l.length : Int) := z3
   obtain ⟨a0, D, J⟩ := Kd.at_int i0.out a u x
   cases D
   replace u := eq_true u
   replace x := eq_true x
   have y : 0 ≤ (a : Int) := z3
   have z : a < (q.length : Int) := z3
   obtain ⟨b0, E, L⟩ := Kd.at_int j0.out a y z
   cases E
   replace y := eq_true y
   replace z := eq_true z
   go_wp2
   repeat (go_quiet (fail); try go_wp2)
   go_ret
   exact ⟨zR, zD⟩
 rw [if_pos B] at H
 have p0 := beq_iff_eq.mpr B
 have q0 := bne_eq_false_iff_eq.mpr B
 clear B
 have H' := zK H
 clear H
 have u : 0 ≤ (a : Int) := z3
 have x : a < (l.length : Int) := z3
 obtain ⟨a0, D, J⟩ := Kd.at_int i0.out a u x
 cases D
 replace u := eq_true u
 replace x := eq_true x
 have y : 0 ≤ (a : Int) := z3
 have z : a < (q.length : Int) := z3
 obtain ⟨b0, E, L⟩ := Kd.at_int j0.out a y z
 cases E
 replace y := eq_true y
 replace z := eq_true z
 go_wp2
 repeat (go_quiet (fail); try go_wp2)
 go_roundg k1
 case measure => have := m0.out; omega
 case rel => exact ⟨(wrap64 (a + 1)), zR, H', ⟨by have := m0.out; omega⟩, zD⟩
end Go.Proofs.Ytdlhmhgpafegpaa.PFnExactLmOk
