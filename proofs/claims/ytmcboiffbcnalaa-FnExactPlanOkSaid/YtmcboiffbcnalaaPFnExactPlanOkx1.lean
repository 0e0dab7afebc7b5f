-- Printed out of the translation by this session's own turned copy of a printer; Lean checks it.
import Derived.Test.YtmcboiffbcnalaaPFnExactPlanOkx0
namespace Go.Proofs.Ytmcboiffbcnalaa.PFnExactPlanOk
open Go.RowKit Go.Proofs.YtmcboiffbcnalaaW.PrintWords Go.Proofs.YtmcboiffbcnalaaW.PrintLast Go.Proofs.YtmcboiffbcnalaaW.PrintMore
attribute [local go_sem] max2_int min2_int max_two min_two max_three min_three max_four min_four
set_option linter.unusedVariables false
set_option linter.unusedSimpArgs false
set_option maxHeartbeats 8000000
set_option maxRecDepth 100000
def laws_szIntS.f (a : List Int) (l : Int) : Option (Int) := if (wrap64 (l - (a.length : Int))) < 0 then (some (-1)) else (some (wrap64 (l - (a.length : Int))))
theorem laws_szIntS.calls (z) (A) (a : List Int) (q) (r) (w) (u : Kd.C (Kd.int .i64) w z a.length a) (x : a.length ≤ A) (h : laws_szIntS.f a q = some r) :
 Calls Try.prog 19 #[.slice z a.length A, .int .i64 q] w fun e w' => e = .returned (.int .i64 r) ∧ Drawn0 w w' := by
 have B := zK u
 have D := zK x
 clear u x
 have H : (if (wrap64 (q - (a.length : Int))) < 0 then (some (-1)) else (some (wrap64 (q - (a.length : Int))))) = some r := h
 clear h
 by_cases l : (wrap64 (q - (a.length : Int))) < 0
 · rw [if_pos l] at H
   have y := z1 l
   clear l
   obtain rfl := z5 H
   go_enter Try.func19, Try.ntmps19
   go_wp2
   go_ret
   exact ⟨zR, zD⟩
 rw [if_neg l] at H
 have y := z2 l
 clear l
 obtain rfl := z5 H
 go_enter Try.func19, Try.ntmps19
 go_wp2
 go_ret
 exact ⟨zR, zD⟩
def laws_szFix.f (q : Int) (l : List Int) (u : Int) : Option (Int) := (laws_szIntS.f l u).bind fun a => (if a < 0 then (some (-1)) else (some a))
theorem laws_szFix.calls (x) (q) (u) (a : List Int) (B) (r) (w) (y : Kd.C (Kd.int .i64) w q a.length a) (z : a.length ≤ u) (h : laws_szFix.f x a B = some r) :
 Calls Try.prog 53 #[.agg #[.int .i64 x, .slice q a.length u], .int .i64 B] w fun e w' => e = .returned (.int .i64 r) ∧ Below w.heap.size w w' := by
 have g0 := Try.underlying92
 have D := zK y
 have E := zK z
 clear y z
 have HB := zK (Below.refl w.heap.size w)
 have H : ((laws_szIntS.f a B).bind fun l => (if l < 0 then (some (-1)) else (some l))) = some r := h
 clear h
 replace H := z6 H
 obtain ⟨l, J, H⟩ := H
 have A3 := zK J
 clear J
 by_cases A : l < 0
 rw [if_pos A] at H
 have L := z1 A
 clear A
 obtain rfl := z5 H
 rotate_left
 rw [if_neg A] at H
 have L := z2 A
 clear A
 obtain rfl := z5 H
 all_goals go_enter Try.func53, Try.ntmps53
 all_goals go_wp2_with (first | ((with_reducible refine gd 2 rfl ?_); refine zJ 2 #[.int .i64 x, .slice q a.length u] 92 ?_; intro d0 hg w7 hbox hb; have M := z8 hb; have O := zK (hbox); have T := z9 hg; have U := z9 hg; revert M O T U; clear HB; intro HB I e0 f0; clear hb hbox hg; obtain ⟨X, a0, b0, c0⟩ := zc2 I) | ((with_reducible refine gc 19 rfl ?_); refine zF 8 Try.func19 #[.slice q a.length u, .int .i64 B] rfl zL ?_; refine (laws_szIntS.calls _ _ a B l _ (zS D) E.out A3.out).mono ?_; rintro e w' ⟨rfl, ⟨nd, rfl⟩⟩; refine ⟨_, rfl, ?_⟩))
 all_goals go_ret
 all_goals exact ⟨zE, zB⟩
def laws_szFixS.l0 : Nat → List (S92) → Int → Int → Option (Int)
 | 0, _, _, _ => none
 | k + 1, q, u, a => if a < (q.length : Int) then (if 0 ≤ a then ((laws_szFix.f ((rd_T92 q a).f0) ((rd_T92 q a).f1) u).bind fun l => (if l < 0 then (some (-1)) else (laws_szFixS.l0 k q l (wrap64 (a + 1))))) else (none)) else (some u)
def laws_szFixS.f (k : Nat) (a : List (S92)) (l : Int) : Option (Int) := if (wrap64 (l - (a.length : Int))) < 0 then (some (-1)) else (laws_szFixS.l0 k a (wrap64 (l - (a.length : Int))) 0)
theorem laws_szFixS.calls (k) (A0) (c0) (l : List (S92)) (T) (r) (w) (g0 : Kd.C k92 w A0 l.length l) (i0 : l.length ≤ c0) (h : laws_szFixS.f k l T = some r) :
 Calls Try.prog 28 #[.slice A0 l.length c0, .int .i64 T] w fun e w' => e = .returned (.int .i64 r) ∧ Below w.heap.size w w' := by
 have x0 := Try.underlying92
 have j0 := zK g0
 have B0 := zK i0
 clear g0 i0
 have HB := zK (Below.refl w.heap.size w)
 have H : (if (wrap64 (T - (l.length : Int))) < 0 then (some (-1)) else (laws_szFixS.l0 k l (wrap64 (T - (l.length : Int))) 0)) = some r := h
 clear h
 by_cases M : (wrap64 (T - (l.length : Int))) < 0
 · rw [if_pos M] at H
   have a0 := z1 M
   clear M
   obtain rfl := z5 H
   go_enter Try.func28, Try.ntmps28
   go_wp2
   go_ret
   exact ⟨zE, zB⟩
 rw [if_neg M] at H
 have a0 := z2 M
 clear M
 have H' := zK H
 clear H
 go_enter Try.func28, Try.ntmps28
 go_wp2
 go_loopg [1, 5] k (fun kq v1 v5 w' => ∃ (z : Int) (a : Int), v1 = .int .i64 z ∧ v5 = .int .i64 a ∧ Aside0 (laws_szFixS.l0 kq l z a = some r) ∧ Aside0 (kq ≤ k) ∧ Aside0 (Below w.heap.size w w'))
 case atStart => exact ⟨(wrap64 (T - (l.length : Int))), (0), zR, zR, H', ⟨Nat.le_refl _⟩, ⟨zB⟩⟩
 clear H'
 try clear c2
 try clear p2
 try clear M
 try clear a0
 obtain ⟨z, a, rfl, rfl, HA, m0, HB⟩ := hrel
 rcases gk with _ | k1
 · exact absurd HA.out (by simp [laws_szFixS.l0])
 have H := HA.out
 clear HA
 simp only [laws_szFixS.l0] at H
 by_cases U : a < (l.length : Int)
 rotate_left
 · rw [if_neg U] at H
   have o0 := z2 U
   clear U
   obtain rfl := z5 H
   go_wp2
   go_ret
   exact ⟨zE, zB⟩
 rw [if_pos U] at H
 have o0 := z1 U
 clear U
 by_cases c5 : 0 ≤ a
 rotate_left
 · rw [if_neg c5] at H
   exact absurd H (by simp)
 rw [if_pos c5] at H
 have y0 := z1 c5
 clear c5
 replace H := z6 H
 obtain ⟨L, n0, H⟩ := H
 have A6 := zK n0
 clear n0
 by_cases X : L < 0
 · rw [if_pos X] at H
   have p0 := z1 X
   clear X
   obtain rfl := z5 H
   have A : 0 ≤ (a : Int) := z3
   have B : a < (l.length : Int) := z3
   obtain ⟨e0, I, J, O, q, u, x, y⟩ := at_T92 j0.out a A B
   cases O
   (try replace q := zX HB q)
   (try replace u := zX HB u)
   have D := zK y
   have E := zK x
   clear y x
   replace A := eq_true A
   replace B := eq_true B
   go_wp2_with (first | ((with_reducible refine gc 53 rfl ?_); refine zF 23 Try.func53 #[.agg #[.int .i64 ((rd_T92 l a).f0), .slice I ((rd_T92 l a).f1).length J], .int .i64 z] rfl zL ?_; refine (laws_szFix.calls ((rd_T92 l a).f0) _ _ ((rd_T92 l a).f1) z L _ (zS D) E.out A6.out).mono ?_; rintro e w8 ⟨rfl, hb⟩; refine ⟨_, rfl, ?_⟩; have b0 := z8 hb; revert b0; clear HB; intro HB))
   go_ret
   exact ⟨zE, zB⟩
 rw [if_neg X] at H
 have p0 := z2 X
 clear X
 have H' := zK H
 clear H
 have A : 0 ≤ (a : Int) := z3
 have B : a < (l.length : Int) := z3
 obtain ⟨e0, I, J, O, q, u, x, y⟩ := at_T92 j0.out a A B
 cases O
 (try replace q := zX HB q)
 (try replace u := zX HB u)
 have D := zK y
 have E := zK x
 clear y x
 replace A := eq_true A
 replace B := eq_true B
 go_wp2_with (first | ((with_reducible refine gc 53 rfl ?_); refine zF 23 Try.func53 #[.agg #[.int .i64 ((rd_T92 l a).f0), .slice I ((rd_T92 l a).f1).length J], .int .i64 z] rfl zL ?_; refine (laws_szFix.calls ((rd_T92 l a).f0) _ _ ((rd_T92 l a).f1) z L _ (zS D) E.out A6.out).mono ?_; rintro e w9 ⟨rfl, hb⟩; refine ⟨_, rfl, ?_⟩; have b0 := z8 hb; revert b0; clear HB; intro HB))
 go_roundg k1
 case measure => have := m0.out; omega
 case rel => exact ⟨(L), (wrap64 (a + 1)), zR, zR, H', ⟨by have := m0.out; omega⟩, ⟨zB⟩⟩
def laws_szAccess.f (q : Int) (u : Int) (l : List Int) (x : Int) : Option (Int) := (laws_szIntS.f l x).bind fun a => (if a < 0 then (some (-1)) else (some a))
theorem laws_szAccess.calls (x) (y) (q) (u) (a : List Int) (D) (r) (w) (z : Kd.C (Kd.int .i64) w q a.length a) (A : a.length ≤ u) (h : laws_szAccess.f x y a D = some r) :
 Calls Try.prog 74 #[.agg #[.int .i64 x, .int .i64 y, .slice q a.length u], .int .i64 D] w fun e w' => e = .returned (.int .i64 r) ∧ Below w.heap.size w w' := by
 have l0 := Try.underlying95
 have E := zK z
 have I := zK A
 clear z A
 have HB := zK (Below.refl w.heap.size w)
 have H : ((laws_szIntS.f a D).bind fun l => (if l < 0 then (some (-1)) else (some l))) = some r := h
 clear h
 replace H := z6 H
 obtain ⟨l, L, H⟩ := H
 have A3 := zK L
 clear L
 by_cases B : l < 0
 rw [if_pos B] at H
 have M := z1 B
 clear B
 obtain rfl := z5 H
 rotate_left
 rw [if_neg B] at H
 have M := z2 B
 clear B
 obtain rfl := z5 H
 all_goals go_enter Try.func74, Try.ntmps74
 all_goals go_wp2_with (first | ((with_reducible refine gd 2 rfl ?_); refine zJ 2 #[.int .i64 x, .int .i64 y, .slice q a.length u] 95 ?_; intro g0 hg w7 hbox hb; have O := z8 hb; have T := zK (hbox); have U := z9 hg; have X := z9 hg; revert O T U X; clear HB; intro HB J i0 j0; clear hb hbox hg; obtain ⟨a0, b0, c0, d0, e0, f0⟩ := zc3 J) | ((with_reducible refine gc 19 rfl ?_); refine zF 8 Try.func19 #[.slice q a.length u, .int .i64 D] rfl zL ?_; refine (laws_szIntS.calls _ _ a D l _ (zS E) I.out A3.out).mono ?_; rintro e w' ⟨rfl, ⟨nd, rfl⟩⟩; refine ⟨_, rfl, ?_⟩))
 all_goals go_ret
 all_goals exact ⟨zE, zB⟩
def laws_szAccessS.l0 : Nat → List (S95) → Int → Int → Option (Int)
 | 0, _, _, _ => none
 | k + 1, l, u, a => if a < (l.length : Int) then (if 0 ≤ a then ((laws_szAccess.f ((rd_T95 l a).f0) ((rd_T95 l a).f1) ((rd_T95 l a).f2) u).bind fun q => (if q < 0 then (some (-1)) else (laws_szAccessS.l0 k l q (wrap64 (a + 1))))) else (none)) else (some u)
def laws_szAccessS.f (k : Nat) (a : List (S95)) (l : Int) : Option (Int) := if (wrap64 (l - (a.length : Int))) < 0 then (some (-1)) else (laws_szAccessS.l0 k a (wrap64 (l - (a.length : Int))) 0)
theorem laws_szAccessS.calls (k) (A0) (c0) (l : List (S95)) (U) (r) (w) (i0 : Kd.C k95 w A0 l.length l) (j0 : l.length ≤ c0) (h : laws_szAccessS.f k l U = some r) :
 Calls Try.prog 73 #[.slice A0 l.length c0, .int .i64 U] w fun e w' => e = .returned (.int .i64 r) ∧ Below w.heap.size w w' := by
 have y0 := Try.underlying95
 have m0 := zK i0
 have C0 := zK j0
 clear i0 j0
 have HB := zK (Below.refl w.heap.size w)
 have H : (if (wrap64 (U - (l.length : Int))) < 0 then (some (-1)) else (laws_szAccessS.l0 k l (wrap64 (U - (l.length : Int))) 0)) = some r := h
 clear h
 by_cases O : (wrap64 (U - (l.length : Int))) < 0
 · rw [if_pos O] at H
   have b0 := z1 O
   clear O
   obtain rfl := z5 H
   go_enter Try.func73, Try.ntmps73
   go_wp2
   go_ret
   exact ⟨zE, zB⟩
 rw [if_neg O] at H
 have b0 := z2 O
 clear O
 have H' := zK H
 clear H
 go_enter Try.func73, Try.ntmps73
 go_wp2
 go_loopg [1, 5] k (fun kq v1 v5 w' => ∃ (A : Int) (a : Int), v1 = .int .i64 A ∧ v5 = .int .i64 a ∧ Aside0 (laws_szAccessS.l0 kq l A a = some r) ∧ Aside0 (kq ≤ k) ∧ Aside0 (Below w.heap.size w w'))
 case atStart => exact ⟨(wrap64 (U - (l.length : Int))), (0), zR, zR, H', ⟨Nat.le_refl _⟩, ⟨zB⟩⟩
 clear H'
 try clear p2
 try clear O
 try clear b0
 obtain ⟨A, a, rfl, rfl, HA, n0, HB⟩ := hrel
 rcases gk with _ | k1
 · exact absurd HA.out (by simp [laws_szAccessS.l0])
 have H := HA.out
 clear HA
 simp only [laws_szAccessS.l0] at H
 by_cases X : a < (l.length : Int)
 rotate_left
 · rw [if_neg X] at H
   have p0 := z2 X
   clear X
   obtain rfl := z5 H
   go_wp2
   go_ret
   exact ⟨zE, zB⟩
 rw [if_pos X] at H
 have p0 := z1 X
 clear X
 by_cases c5 : 0 ≤ a
 rotate_left
 · rw [if_neg c5] at H
   exact absurd H (by simp)
 rw [if_pos c5] at H
 have B0 := z1 c5
 clear c5
 replace H := z6 H
 obtain ⟨M, o0, H⟩ := H
 have A6 := zK o0
 clear o0
 by_cases c7 : M < 0
 · rw [if_pos c7] at H
   have q0 := z1 c7
   clear c7
   obtain rfl := z5 H
   have B : 0 ≤ (a : Int) := z3
   have D : a < (l.length : Int) := z3
   obtain ⟨g0, J, L, T, q, u, x, y, z⟩ := at_T95 m0.out a B D
   cases T
   (try replace q := zX HB q)
   (try replace u := zX HB u)
   (try replace x := zX HB x)
   have E := zK z
   have I := zK y
   clear z y
   replace B := eq_true B
   replace D := eq_true D
   go_wp2_with (first | ((with_reducible refine gc 74 rfl ?_); refine zF 23 Try.func74 #[.agg #[.int .i64 ((rd_T95 l a).f0), .int .i64 ((rd_T95 l a).f1), .slice J ((rd_T95 l a).f2).length L], .int .i64 A] rfl zL ?_; refine (laws_szAccess.calls ((rd_T95 l a).f0) ((rd_T95 l a).f1) _ _ ((rd_T95 l a).f2) A M _ (zS E) I.out A6.out).mono ?_; rintro e w8 ⟨rfl, hb⟩; refine ⟨_, rfl, ?_⟩; have d0 := z8 hb; revert d0; clear HB; intro HB))
   go_ret
   exact ⟨zE, zB⟩
 rw [if_neg c7] at H
 have q0 := z2 c7
 clear c7
 have H' := zK H
 clear H
 have B : 0 ≤ (a : Int) := z3
 have D : a < (l.length : Int) := z3
 obtain ⟨g0, J, L, T, q, u, x, y, z⟩ := at_T95 m0.out a B D
 cases T
 (try replace q := zX HB q)
 (try replace u := zX HB u)
 (try replace x := zX HB x)
 have E := zK z
 have I := zK y
 clear z y
 replace B := eq_true B
 replace D := eq_true D
 go_wp2_with (first | ((with_reducible refine gc 74 rfl ?_); refine zF 23 Try.func74 #[.agg #[.int .i64 ((rd_T95 l a).f0), .int .i64 ((rd_T95 l a).f1), .slice J ((rd_T95 l a).f2).length L], .int .i64 A] rfl zL ?_; refine (laws_szAccess.calls ((rd_T95 l a).f0) ((rd_T95 l a).f1) _ _ ((rd_T95 l a).f2) A M _ (zS E) I.out A6.out).mono ?_; rintro e w9 ⟨rfl, hb⟩; refine ⟨_, rfl, ?_⟩; have d0 := z8 hb; revert d0; clear HB; intro HB))
 go_roundg k1
 case measure => have := n0.out; omega
 case rel => exact ⟨(M), (wrap64 (a + 1)), zR, zR, H', ⟨by have := n0.out; omega⟩, ⟨zB⟩⟩
def laws_szCalcS.f (a : List (S124)) (l : Int) : Option (Int) := if (wrap64 (l - (a.length : Int))) < 0 then (some (-1)) else (some (wrap64 (l - (a.length : Int))))
theorem laws_szCalcS.calls (z) (A) (a : List (S124)) (q) (r) (w) (u : Kd.C k124 w z a.length a) (x : a.length ≤ A) (h : laws_szCalcS.f a q = some r) :
 Calls Try.prog 75 #[.slice z a.length A, .int .i64 q] w fun e w' => e = .returned (.int .i64 r) ∧ Drawn0 w w' := by
 have B := zK u
 have D := zK x
 clear u x
 have H : (if (wrap64 (q - (a.length : Int))) < 0 then (some (-1)) else (some (wrap64 (q - (a.length : Int))))) = some r := h
 clear h
 by_cases l : (wrap64 (q - (a.length : Int))) < 0
 · rw [if_pos l] at H
   have y := z1 l
   clear l
   obtain rfl := z5 H
   go_enter Try.func75, Try.ntmps75
   go_wp2
   go_ret
   exact ⟨zR, zD⟩
 rw [if_neg l] at H
 have y := z2 l
 clear l
 obtain rfl := z5 H
 go_enter Try.func75, Try.ntmps75
 go_wp2
 go_ret
 exact ⟨zR, zD⟩
def laws_szKernel.f (k : Nat) (x : List Int) (y : List (S95)) (z : Int) (A : Int) (B : List Int) (E : Bool) (D : List (S124)) (I : Int) : Option (Int) := (laws_szIntS.f x I).bind fun a => (if a < 0 then (some (-1)) else ((laws_szAccessS.f k y a).bind fun l => (if l < 0 then (some (-1)) else ((laws_szAccess.f z A B l).bind fun q => (if q < 0 then (some (-1)) else ((laws_szCalcS.f D q).bind fun u => (if u < 0 then (some (-1)) else (some u))))))))
theorem laws_szKernel.calls (k) (L) (M) (l : List Int) (O) (T) (q : List (S95)) (B) (D) (U) (X) (u : List Int) (e0 : Bool) (a0) (b0) (x : List (S124)) (a1) (r) (w) (f0 : Kd.C (Kd.int .i64) w L l.length l) (g0 : l.length ≤ M) (i0 : Kd.C k95 w O q.length q) (j0 : q.length ≤ T) (l0 : Kd.C (Kd.int .i64) w U u.length u) (m0 : u.length ≤ X) (n0 : Kd.C k124 w a0 x.length x) (o0 : x.length ≤ b0) (h : laws_szKernel.f k l q B D u e0 x a1 = some r) :
 Calls Try.prog 54 #[.agg #[.slice L l.length M, .slice O q.length T, .int .i64 B, .int .i64 D, .slice U u.length X, .bool e0, .slice a0 x.length b0], .int .i64 a1] w fun e w' => e = .returned (.int .i64 r) ∧ Below w.heap.size w w' := by
 have g2 := Try.underlying98
 have i2 := Try.underlying95
 have y0 := zK f0
 have A0 := zK g0
 clear f0 g0
 have B0 := zK i0
 have C0 := zK j0
 clear i0 j0
 have D0 := zK l0
 have E0 := zK m0
 clear l0 m0
 have F0 := zK n0
 have G0 := zK o0
 clear n0 o0
 have HB := zK (Below.refl w.heap.size w)
 have H : ((laws_szIntS.f l a1).bind fun y => (if y < 0 then (some (-1)) else ((laws_szAccessS.f k q y).bind fun z => (if z < 0 then (some (-1)) else ((laws_szAccess.f B D u z).bind fun A => (if A < 0 then (some (-1)) else ((laws_szCalcS.f x A).bind fun E => (if E < 0 then (some (-1)) else (some E))))))))) = some r := h
 clear h
 replace H := z6 H
 obtain ⟨y, L0, H⟩ := H
 have A3 := zK L0
 clear L0
 by_cases c4 : y < 0
 rw [if_pos c4] at H
 have N0 := z1 c4
 clear c4
 obtain rfl := z5 H
 rotate_left
 rw [if_neg c4] at H
 have N0 := z2 c4
 clear c4
 replace H := z6 H
 obtain ⟨z, M0, H⟩ := H
 have A7 := zK M0
 clear M0
 by_cases c8 : z < 0
 rw [if_pos c8] at H
 have O0 := z1 c8
 clear c8
 obtain rfl := z5 H
 rotate_left
 rw [if_neg c8] at H
 have O0 := z2 c8
 clear c8
 replace H := z6 H
 obtain ⟨A, t0, H⟩ := H
 have X1 := zK t0
 clear t0
 by_cases I : A < 0
 rw [if_pos I] at H
 have I0 := z1 I
 clear I
 obtain rfl := z5 H
 rotate_left
 rw [if_neg I] at H
 have I0 := z2 I
 clear I
 replace H := z6 H
 obtain ⟨E, x0, H⟩ := H
 have a2 := zK x0
 clear x0
 by_cases J : E < 0
 rw [if_pos J] at H
 have J0 := z1 J
 clear J
 obtain rfl := z5 H
 rotate_left
 rw [if_neg J] at H
 have J0 := z2 J
 clear J
 obtain rfl := z5 H
 all_goals go_enter Try.func54, Try.ntmps54
 all_goals go_wp2_with (first | ((with_reducible refine gd 2 rfl ?_); refine zJ 2 #[.slice L l.length M, .slice O q.length T, .int .i64 B, .int .i64 D, .slice U u.length X, .bool e0, .slice a0 x.length b0] 98 ?_; intro d2 hg m2 hbox hb; have c0 := z8 hb; have d0 := zK (hbox); have b2 := z9 hg; have c2 := z9 hg; revert c0 d0 b2 c2; clear HB; intro HB a e2 f2; clear hb hbox hg; obtain ⟨R0, S0, T0, U0, V0, X0, b1, c1, d1, e1, f1, g1, i1, j1⟩ := zc7 a) | ((with_reducible refine gc 19 rfl ?_); refine zF 8 Try.func19 #[.slice L l.length M, .int .i64 a1] rfl zL ?_; refine (laws_szIntS.calls _ _ l a1 y _ (zS y0) A0.out A3.out).mono ?_; rintro e w' ⟨rfl, ⟨nd, rfl⟩⟩; refine ⟨_, rfl, ?_⟩) | ((with_reducible refine gc 73 rfl ?_); refine zF 14 Try.func73 #[.slice O q.length T, .int .i64 y] rfl zL ?_; refine (laws_szAccessS.calls k _ _ q y z _ (zS B0) C0.out A7.out).mono ?_; rintro e n2 ⟨rfl, hb⟩; refine ⟨_, rfl, ?_⟩; have c0 := z7 a hb; have d0 := z8 hb; revert c0 d0; clear a HB; intro a HB; obtain ⟨l1, m1, n1, o1, p1, q1, s1, t1, x1, y1, A1, B1, C1, D1⟩ := zc7 a) | ((with_reducible refine gc 74 rfl ?_); refine zF 20 Try.func74 #[.agg #[.int .i64 B, .int .i64 D, .slice U u.length X], .int .i64 z] rfl zL ?_; refine (laws_szAccess.calls B D _ _ u z A _ (zS D0) E0.out X1.out).mono ?_; rintro e o2 ⟨rfl, hb⟩; refine ⟨_, rfl, ?_⟩; have c0 := z7 a hb; have d0 := z8 hb; revert c0 d0; clear a HB; intro a HB; obtain ⟨E1, F1, G1, I1, J1, L1, M1, N1, O1, R1, S1, T1, U1, V1⟩ := zc7 a) | ((with_reducible refine gc 75 rfl ?_); refine zF 26 Try.func75 #[.slice a0 x.length b0, .int .i64 A] rfl zL ?_; refine (laws_szCalcS.calls _ _ x A E _ (zS F0) G0.out a2.out).mono ?_; rintro e w' ⟨rfl, ⟨nd, rfl⟩⟩; refine ⟨_, rfl, ?_⟩))
 all_goals go_ret
 all_goals exact ⟨zE, zB⟩
def laws_szKernelS.l0 : Nat → List (S98) → Int → Int → Option (Int)
 | 0, _, _, _ => none
 | k + 1, l, u, a => if a < (l.length : Int) then (if 0 ≤ a then ((laws_szKernel.f k ((rd_T98 l a).f0) ((rd_T98 l a).f1) ((rd_T98 l a).f2.f0) ((rd_T98 l a).f2.f1) ((rd_T98 l a).f2.f2) ((rd_T98 l a).f3) ((rd_T98 l a).f4) u).bind fun q => (if q < 0 then (some (-1)) else (laws_szKernelS.l0 k l q (wrap64 (a + 1))))) else (none)) else (some u)
def laws_szKernelS.f (k : Nat) (a : List (S98)) (l : Int) : Option (Int) := if (wrap64 (l - (a.length : Int))) < 0 then (some (-1)) else (laws_szKernelS.l0 k a (wrap64 (l - (a.length : Int))) 0)
theorem laws_szKernelS.calls (k) (A0) (c0) (l : List (S98)) (a1) (r) (w) (O0 : Kd.C k98 w A0 l.length l) (R0 : l.length ≤ c0) (h : laws_szKernelS.f k l a1 = some r) :
 Calls Try.prog 29 #[.slice A0 l.length c0, .int .i64 a1] w fun e w' => e = .returned (.int .i64 r) ∧ Below w.heap.size w w' := by
 have e1 := Try.underlying98
 have S0 := zK O0
 have i1 := zK R0
 clear O0 R0
 have HB := zK (Below.refl w.heap.size w)
 have H : (if (wrap64 (a1 - (l.length : Int))) < 0 then (some (-1)) else (laws_szKernelS.l0 k l (wrap64 (a1 - (l.length : Int))) 0)) = some r := h
 clear h
 by_cases c3 : (wrap64 (a1 - (l.length : Int))) < 0
 · rw [if_pos c3] at H
   have J0 := z1 c3
   clear c3
   obtain rfl := z5 H
   go_enter Try.func29, Try.ntmps29
   go_wp2
   go_ret
   exact ⟨zE, zB⟩
 rw [if_neg c3] at H
 have J0 := z2 c3
 clear c3
 have H' := zK H
 clear H
 go_enter Try.func29, Try.ntmps29
 go_wp2
 go_loopg [1, 5] k (fun kq v1 v5 w' => ∃ (U : Int) (a : Int), v1 = .int .i64 U ∧ v5 = .int .i64 a ∧ Aside0 (laws_szKernelS.l0 kq l U a = some r) ∧ Aside0 (kq ≤ k) ∧ Aside0 (Below w.heap.size w w'))
 case atStart => exact ⟨(wrap64 (a1 - (l.length : Int))), (0), zR, zR, H', ⟨Nat.le_refl _⟩, ⟨zB⟩⟩
 clear H'
 try clear c2
 try clear p2
 try clear c3
 try clear J0
 obtain ⟨U, a, rfl, rfl, HA, T0, HB⟩ := hrel
 rcases gk with _ | k1
 · exact absurd HA.out (by simp [laws_szKernelS.l0])
 have H := HA.out
 clear HA
 simp only [laws_szKernelS.l0] at H
 by_cases c4 : a < (l.length : Int)
 rotate_left
 · rw [if_neg c4] at H
   have V0 := z2 c4
   clear c4
   obtain rfl := z5 H
   go_wp2
   go_ret
   exact ⟨zE, zB⟩
 rw [if_pos c4] at H
 have V0 := z1 c4
 clear c4
 by_cases c5 : 0 ≤ a
 rotate_left
 · rw [if_neg c5] at H
   exact absurd H (by simp)
 rw [if_pos c5] at H
 have g1 := z1 c5
 clear c5
 replace H := z6 H
 obtain ⟨C0, U0, H⟩ := H
 have A6 := zK U0
 clear U0
 by_cases c7 : C0 < 0
 · rw [if_pos c7] at H
   have X0 := z1 c7
   clear c7
   obtain rfl := z5 H
   have X : 0 ≤ (a : Int) := z3
   have a0 : a < (l.length : Int) := z3
   obtain ⟨N0, o0, p0, q0, s0, t0, x0, y0, B0, E0, q, u, x, y, z, A, B, D, E, I, J, L, M, O, T⟩ := at_T98 S0.out a X a0
   cases E0
   (try replace q := zX HB q)
   (try replace u := zX HB u)
   (try replace x := zX HB x)
   (try replace y := zX HB y)
   (try replace z := zX HB z)
   (try replace A := zX HB A)
   (try replace B := zX HB B)
   have b0 := zK E
   have d0 := zK D
   clear E D
   have e0 := zK J
   have g0 := zK I
   clear J I
   have i0 := zK M
   have j0 := zK L
   clear M L
   have m0 := zK T
   have n0 := zK O
   clear T O
   replace X := eq_true X
   replace a0 := eq_true a0
   go_wp2_with (first | ((with_reducible refine gc 54 rfl ?_); refine zF 23 Try.func54 #[.agg #[.slice o0 ((rd_T98 l a).f0).length p0, .slice q0 ((rd_T98 l a).f1).length s0, .int .i64 ((rd_T98 l a).f2.f0), .int .i64 ((rd_T98 l a).f2.f1), .slice t0 ((rd_T98 l a).f2.f2).length x0, .bool ((rd_T98 l a).f3), .slice y0 ((rd_T98 l a).f4).length B0], .int .i64 U] rfl zL ?_; refine (laws_szKernel.calls k1 _ _ ((rd_T98 l a).f0) _ _ ((rd_T98 l a).f1) ((rd_T98 l a).f2.f0) ((rd_T98 l a).f2.f1) _ _ ((rd_T98 l a).f2.f2) ((rd_T98 l a).f3) _ _ ((rd_T98 l a).f4) U C0 _ (zS b0) d0.out (zS e0) g0.out (zS i0) j0.out (zS m0) n0.out A6.out).mono ?_; rintro e w8 ⟨rfl, hb⟩; refine ⟨_, rfl, ?_⟩; have L0 := z8 hb; revert L0; clear HB; intro HB))
   go_ret
   exact ⟨zE, zB⟩
 rw [if_neg c7] at H
 have X0 := z2 c7
 clear c7
 have H' := zK H
 clear H
 have X : 0 ≤ (a : Int) := z3
 have a0 : a < (l.length : Int) := z3
 obtain ⟨N0, o0, p0, q0, s0, t0, x0, y0, B0, E0, q, u, x, y, z, A, B, D, E, I, J, L, M, O, T⟩ := at_T98 S0.out a X a0
 cases E0
 (try replace q := zX HB q)
 (try replace u := zX HB u)
 (try replace x := zX HB x)
 (try replace y := zX HB y)
 (try replace z := zX HB z)
 (try replace A := zX HB A)
 (try replace B := zX HB B)
 have b0 := zK E
 have d0 := zK D
 clear E D
 have e0 := zK J
 have g0 := zK I
 clear J I
 have i0 := zK M
 have j0 := zK L
 clear M L
 have m0 := zK T
 have n0 := zK O
 clear T O
 replace X := eq_true X
 replace a0 := eq_true a0
 go_wp2_with (first | ((with_reducible refine gc 54 rfl ?_); refine zF 23 Try.func54 #[.agg #[.slice o0 ((rd_T98 l a).f0).length p0, .slice q0 ((rd_T98 l a).f1).length s0, .int .i64 ((rd_T98 l a).f2.f0), .int .i64 ((rd_T98 l a).f2.f1), .slice t0 ((rd_T98 l a).f2.f2).length x0, .bool ((rd_T98 l a).f3), .slice y0 ((rd_T98 l a).f4).length B0], .int .i64 U] rfl zL ?_; refine (laws_szKernel.calls k1 _ _ ((rd_T98 l a).f0) _ _ ((rd_T98 l a).f1) ((rd_T98 l a).f2.f0) ((rd_T98 l a).f2.f1) _ _ ((rd_T98 l a).f2.f2) ((rd_T98 l a).f3) _ _ ((rd_T98 l a).f4) U C0 _ (zS b0) d0.out (zS e0) g0.out (zS i0) j0.out (zS m0) n0.out A6.out).mono ?_; rintro e w9 ⟨rfl, hb⟩; refine ⟨_, rfl, ?_⟩; have L0 := z8 hb; revert L0; clear HB; intro HB))
 go_roundg k1
 case measure => have := T0.out; omega
 case rel => exact ⟨(C0), (wrap64 (a + 1)), zR, zR, H', ⟨by have := T0.out; omega⟩, ⟨zB⟩⟩
def laws_szNest.f (k : Nat) (y : List Int) (z : List Int) (A : List (S92)) (B : List (S98)) (D : List Int) (E : Int) : Option (Int) := (laws_szIntS.f y E).bind fun a => (if a < 0 then (some (-1)) else ((laws_szIntS.f z a).bind fun l => (if l < 0 then (some (-1)) else ((laws_szFixS.f k A l).bind fun q => (if q < 0 then (some (-1)) else ((laws_szKernelS.f k B q).bind fun u => (if u < 0 then (some (-1)) else ((laws_szIntS.f D u).bind fun x => (if x < 0 then (some (-1)) else (some x))))))))))
theorem laws_szNest.calls (k) (M) (O) (l : List Int) (T) (U) (q : List Int) (X) (a0) (u : List (S92)) (b0) (c0) (x : List (S98)) (d0) (e0) (y : List Int) (a1) (r) (w) (i0 : Kd.C (Kd.int .i64) w M l.length l) (j0 : l.length ≤ O) (l0 : Kd.C (Kd.int .i64) w T q.length q) (m0 : q.length ≤ U) (n0 : Kd.C k92 w X u.length u) (o0 : u.length ≤ a0) (p0 : Kd.C k98 w b0 x.length x) (q0 : x.length ≤ c0) (s0 : Kd.C (Kd.int .i64) w d0 y.length y) (t0 : y.length ≤ e0) (h : laws_szNest.f k l q u x y a1 = some r) :
 Calls Try.prog 10 #[.agg #[.slice M l.length O, .slice T q.length U, .slice X u.length a0, .slice b0 x.length c0, .slice d0 y.length e0], .int .i64 a1] w fun e w' => e = .returned (.int .i64 r) ∧ Below w.heap.size w w' := by
 have d2 := Try.underlying26
 have E0 := zK i0
 have F0 := zK j0
 clear i0 j0
 have G0 := zK l0
 have I0 := zK m0
 clear l0 m0
 have J0 := zK n0
 have L0 := zK o0
 clear n0 o0
 have M0 := zK p0
 have N0 := zK q0
 clear p0 q0
 have O0 := zK s0
 have R0 := zK t0
 clear s0 t0
 have HB := zK (Below.refl w.heap.size w)
 have H : ((laws_szIntS.f l a1).bind fun z => (if z < 0 then (some (-1)) else ((laws_szIntS.f q z).bind fun A => (if A < 0 then (some (-1)) else ((laws_szFixS.f k u A).bind fun B => (if B < 0 then (some (-1)) else ((laws_szKernelS.f k x B).bind fun D => (if D < 0 then (some (-1)) else ((laws_szIntS.f y D).bind fun E => (if E < 0 then (some (-1)) else (some E))))))))))) = some r := h
 clear h
 replace H := z6 H
 obtain ⟨z, V0, H⟩ := H
 have A3 := zK V0
 clear V0
 by_cases c4 : z < 0
 rw [if_pos c4] at H
 have b1 := z1 c4
 clear c4
 obtain rfl := z5 H
 rotate_left
 rw [if_neg c4] at H
 have b1 := z2 c4
 clear c4
 replace H := z6 H
 obtain ⟨A, X0, H⟩ := H
 have A7 := zK X0
 clear X0
 by_cases c8 : A < 0
 rw [if_pos c8] at H
 have c1 := z1 c8
 clear c8
 obtain rfl := z5 H
 rotate_left
 rw [if_neg c8] at H
 have c1 := z2 c8
 clear c8
 replace H := z6 H
 obtain ⟨B, B0, H⟩ := H
 have S1 := zK B0
 clear B0
 by_cases I : B < 0
 rw [if_pos I] at H
 have S0 := z1 I
 clear I
 obtain rfl := z5 H
 rotate_left
 rw [if_neg I] at H
 have S0 := z2 I
 clear I
 replace H := z6 H
 obtain ⟨D, C0, H⟩ := H
 have T1 := zK C0
 clear C0
 by_cases J : D < 0
 rw [if_pos J] at H
 have T0 := z1 J
 clear J
 obtain rfl := z5 H
 rotate_left
 rw [if_neg J] at H
 have T0 := z2 J
 clear J
 replace H := z6 H
 obtain ⟨E, D0, H⟩ := H
 have U1 := zK D0
 clear D0
 by_cases L : E < 0
 rw [if_pos L] at H
 have U0 := z1 L
 clear L
 obtain rfl := z5 H
 rotate_left
 rw [if_neg L] at H
 have U0 := z2 L
 clear L
 obtain rfl := z5 H
 all_goals go_enter Try.func10, Try.ntmps10
 all_goals go_wp2_with (first | ((with_reducible refine gd 2 rfl ?_); refine zJ 2 #[.slice M l.length O, .slice T q.length U, .slice X u.length a0, .slice b0 x.length c0, .slice d0 y.length e0] 26 ?_; intro a2 hg g2 hbox hb; have f0 := z8 hb; have g0 := zK (hbox); have V1 := z9 hg; have X1 := z9 hg; revert f0 g0 V1 X1; clear HB; intro HB a b2 c2; clear hb hbox hg; obtain ⟨d1, e1, f1, g1, i1, j1, l1, m1, n1, o1⟩ := zc5 a) | ((with_reducible refine gc 19 rfl ?_); refine zF 8 Try.func19 #[.slice M l.length O, .int .i64 a1] rfl zL ?_; refine (laws_szIntS.calls _ _ l a1 z _ (zS E0) F0.out A3.out).mono ?_; rintro e w' ⟨rfl, ⟨nd, rfl⟩⟩; refine ⟨_, rfl, ?_⟩) | ((with_reducible refine gc 19 rfl ?_); refine zF 14 Try.func19 #[.slice T q.length U, .int .i64 z] rfl zL ?_; refine (laws_szIntS.calls _ _ q z A _ (zS G0) I0.out A7.out).mono ?_; rintro e w' ⟨rfl, ⟨nd, rfl⟩⟩; refine ⟨_, rfl, ?_⟩) | ((with_reducible refine gc 28 rfl ?_); refine zF 20 Try.func28 #[.slice X u.length a0, .int .i64 A] rfl zL ?_; refine (laws_szFixS.calls k _ _ u A B _ (zS J0) L0.out S1.out).mono ?_; rintro e i2 ⟨rfl, hb⟩; refine ⟨_, rfl, ?_⟩; have f0 := z7 a hb; have g0 := z8 hb; revert f0 g0; clear a HB; intro a HB; obtain ⟨p1, q1, s1, t1, x1, y1, A1, B1, C1, D1⟩ := zc5 a) | ((with_reducible refine gc 29 rfl ?_); refine zF 26 Try.func29 #[.slice b0 x.length c0, .int .i64 B] rfl zL ?_; refine (laws_szKernelS.calls k _ _ x B D _ (zS M0) N0.out T1.out).mono ?_; rintro e j2 ⟨rfl, hb⟩; refine ⟨_, rfl, ?_⟩; have f0 := z7 a hb; have g0 := z8 hb; revert f0 g0; clear a HB; intro a HB; obtain ⟨E1, F1, G1, I1, J1, L1, M1, N1, O1, R1⟩ := zc5 a) | ((with_reducible refine gc 19 rfl ?_); refine zF 32 Try.func19 #[.slice d0 y.length e0, .int .i64 D] rfl zL ?_; refine (laws_szIntS.calls _ _ y D E _ (zS O0) R0.out U1.out).mono ?_; rintro e w' ⟨rfl, ⟨nd, rfl⟩⟩; refine ⟨_, rfl, ?_⟩))
 all_goals go_ret
 all_goals exact ⟨zE, zB⟩
def laws_szPlan.f (k : Nat) (q : List Int) (u : List Int) (x : List (S92)) (y : List (S98)) (z : List Int) (A : List Int) (B : Int) (D : Int) : Option (Int) := (laws_szNest.f k q u x y z D).bind fun a => (if a < 0 then (some (-1)) else ((laws_szIntS.f A a).bind fun l => (if l < 0 then (some (-1)) else (some l))))
theorem laws_szPlan.calls (k) (D) (E) (a : List Int) (I) (J) (l : List Int) (L) (M) (q : List (S92)) (O) (T) (u : List (S98)) (U) (X) (x : List Int) (a0) (b0) (y : List Int) (c0) (a1) (r) (w) (d0 : Kd.C (Kd.int .i64) w D a.length a) (e0 : a.length ≤ E) (f0 : Kd.C (Kd.int .i64) w I l.length l) (g0 : l.length ≤ J) (i0 : Kd.C k92 w L q.length q) (j0 : q.length ≤ M) (l0 : Kd.C k98 w O u.length u) (m0 : u.length ≤ T) (n0 : Kd.C (Kd.int .i64) w U x.length x) (o0 : x.length ≤ X) (p0 : Kd.C (Kd.int .i64) w a0 y.length y) (q0 : y.length ≤ b0) (h : laws_szPlan.f k a l q u x y c0 a1 = some r) :
 Calls Try.prog 5 #[.agg #[.slice D a.length E, .slice I l.length J, .slice L q.length M, .slice O u.length T, .slice U x.length X, .slice a0 y.length b0, .int .i64 c0], .int .i64 a1] w fun e w' => e = .returned (.int .i64 r) ∧ Below w.heap.size w w' := by
 have R1 := Try.underlying28
 have S1 := Try.underlying26
 have B0 := zK d0
 have C0 := zK e0
 clear d0 e0
 have D0 := zK f0
 have E0 := zK g0
 clear f0 g0
 have F0 := zK i0
 have G0 := zK j0
 clear i0 j0
 have I0 := zK l0
 have J0 := zK m0
 clear l0 m0
 have L0 := zK n0
 have M0 := zK o0
 clear n0 o0
 have N0 := zK p0
 have O0 := zK q0
 clear p0 q0
 have HB := zK (Below.refl w.heap.size w)
 have H : ((laws_szNest.f k a l q u x a1).bind fun z => (if z < 0 then (some (-1)) else ((laws_szIntS.f y z).bind fun B => (if B < 0 then (some (-1)) else (some B))))) = some r := h
 clear h
 replace H := z6 H
 obtain ⟨z, R0, H⟩ := H
 have A3 := zK R0
 clear R0
 by_cases c4 : z < 0
 rw [if_pos c4] at H
 have T0 := z1 c4
 clear c4
 obtain rfl := z5 H
 rotate_left
 rw [if_neg c4] at H
 have T0 := z2 c4
 clear c4
 replace H := z6 H
 obtain ⟨B, S0, H⟩ := H
 have A8 := zK S0
 clear S0
 by_cases c9 : B < 0
 rw [if_pos c9] at H
 have U0 := z1 c9
 clear c9
 obtain rfl := z5 H
 rotate_left
 rw [if_neg c9] at H
 have U0 := z2 c9
 clear c9
 obtain rfl := z5 H
 all_goals go_enter Try.func5, Try.ntmps5
 all_goals go_wp2_with (first | ((with_reducible refine gd 2 rfl ?_); refine zJ 2 #[.slice D a.length E, .slice I l.length J, .slice L q.length M, .slice O u.length T, .slice U x.length X, .slice a0 y.length b0, .int .i64 c0] 28 ?_; intro M1 hg V1 hbox hb; have y0 := z8 hb; have A0 := zK (hbox); have J1 := z9 hg; have L1 := z9 hg; revert y0 A0 J1 L1; clear HB; intro HB A N1 O1; clear hb hbox hg; obtain ⟨V0, X0, b1, c1, d1, e1, f1, g1, i1, j1, l1, m1, n1, o1⟩ := zc7 A) | ((with_reducible refine gc 10 rfl ?_); refine zF 8 Try.func10 #[.agg #[.slice D a.length E, .slice I l.length J, .slice L q.length M, .slice O u.length T, .slice U x.length X], .int .i64 a1] rfl zL ?_; refine (laws_szNest.calls k _ _ a _ _ l _ _ q _ _ u _ _ x a1 z _ (zS B0) C0.out (zS D0) E0.out (zS F0) G0.out (zS I0) J0.out (zS L0) M0.out A3.out).mono ?_; rintro e X1 ⟨rfl, hb⟩; refine ⟨_, rfl, ?_⟩; have y0 := z7 A hb; have A0 := z8 hb; revert y0 A0; clear A HB; intro A HB; obtain ⟨p1, q1, s1, t1, x1, y1, A1, B1, C1, D1, E1, F1, G1, I1⟩ := zc7 A) | ((with_reducible refine gc 19 rfl ?_); refine zF 14 Try.func19 #[.slice a0 y.length b0, .int .i64 z] rfl zL ?_; refine (laws_szIntS.calls _ _ y z B _ (zS N0) O0.out A8.out).mono ?_; rintro e w' ⟨rfl, ⟨nd, rfl⟩⟩; refine ⟨_, rfl, ?_⟩))
 all_goals go_ret
 all_goals exact ⟨zE, zB⟩
end Go.Proofs.Ytmcboiffbcnalaa.PFnExactPlanOk
