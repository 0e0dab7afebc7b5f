-- Printed out of the translation by this session's own turned copy of a printer; Lean checks it.
import Derived.Test.YtmcboiffbcnalaaPFnExactLivesx0
namespace Go.Proofs.Ytmcboiffbcnalaa.PFnExactLives
open Go.RowKit Go.Proofs.YtmcboiffbcnalaaW.PrintWords Go.Proofs.YtmcboiffbcnalaaW.PrintLast Go.Proofs.YtmcboiffbcnalaaW.PrintMore
attribute [local go_sem] max2_int min2_int max_two min_two max_three min_three max_four min_four
set_option linter.unusedVariables false
set_option linter.unusedSimpArgs false
set_option maxHeartbeats 8000000
set_option maxRecDepth 100000
def laws_szIntS.f (l : List Int) (q : Int) : Option (Int) := if (wrap64 (q - (l.length : Int))) < 0 then (some (-1)) else (some (wrap64 (q - (l.length : Int))))
theorem laws_szIntS.calls (B) (E) (l : List Int) (u) (r) (w) (y : Kd.C (Kd.int .i64) w B l.length l) (z : l.length ≤ E) (h : laws_szIntS.f l u = some r) :
 Calls Try.prog 19 #[.slice B l.length E, .int .i64 u] w fun e w' => e = .returned (.int .i64 r) ∧ Drawn0 w w' := by
 have I := zK y
 have J := zK z
 clear y z
 have H : (if (wrap64 (u - (l.length : Int))) < 0 then (some (-1)) else (some (wrap64 (u - (l.length : Int))))) = some r := h
 clear h
 by_cases q : (wrap64 (u - (l.length : Int))) < 0
 · rw [if_pos q] at H
   have A := z1 q
   clear q
   obtain rfl := z5 H
   go_enter Try.func19, Try.ntmps19
   go_wp2
   go_ret
   exact ⟨zR, zD⟩
 rw [if_neg q] at H
 have A := z2 q
 clear q
 obtain rfl := z5 H
 go_enter Try.func19, Try.ntmps19
 go_wp2
 go_ret
 exact ⟨zR, zD⟩
def laws_szFix.f (u : Int) (q : List Int) (y : Int) : Option (Int) := (laws_szIntS.f q y).bind fun l => (if l < 0 then (some (-1)) else (some l))
theorem laws_szFix.calls (z) (u) (y) (l : List Int) (I) (r) (w) (A : Kd.C (Kd.int .i64) w u l.length l) (B : l.length ≤ y) (h : laws_szFix.f z l I = some r) :
 Calls Try.prog 53 #[.agg #[.int .i64 z, .slice u l.length y], .int .i64 I] w fun e w' => e = .returned (.int .i64 r) ∧ Below w.heap.size w w' := by
 have l0 := Try.underlying92
 have J := zK A
 have L := zK B
 clear A B
 have HB := zK (Below.refl w.heap.size w)
 have H : ((laws_szIntS.f l I).bind fun q => (if q < 0 then (some (-1)) else (some q))) = some r := h
 clear h
 replace H := z6 H
 obtain ⟨q, O, H⟩ := H
 have A3 := zK O
 clear O
 by_cases E : q < 0
 rw [if_pos E] at H
 have T := z1 E
 clear E
 obtain rfl := z5 H
 rotate_left
 rw [if_neg E] at H
 have T := z2 E
 clear E
 obtain rfl := z5 H
 all_goals go_enter Try.func53, Try.ntmps53
 all_goals go_wp2_with (first | ((with_reducible refine gd 2 rfl ?_); refine zJ 2 #[.int .i64 z, .slice u l.length y] 92 ?_; intro g0 hg w7 hbox hb; have U := z8 hb; have X := zK (hbox); have a0 := z9 hg; have b0 := z9 hg; revert U X a0 b0; clear HB; intro HB M i0 j0; clear hb hbox hg; obtain ⟨c0, d0, e0, f0⟩ := zc2 M) | ((with_reducible refine gc 19 rfl ?_); refine zF 8 Try.func19 #[.slice u l.length y, .int .i64 I] rfl zL ?_; refine (laws_szIntS.calls _ _ l I q _ (zS J) L.out A3.out).mono ?_; rintro e w' ⟨rfl, ⟨nd, rfl⟩⟩; refine ⟨_, rfl, ?_⟩))
 all_goals go_ret
 all_goals exact ⟨zE, zB⟩
def laws_szFixS.l0 : Nat → List (S92) → Int → Int → Option (Int)
 | 0, _, _, _ => none
 | k + 1, u, y, l => if l < (u.length : Int) then (if 0 ≤ l then ((laws_szFix.f ((rd_T92 u l).f0) ((rd_T92 u l).f1) y).bind fun q => (if q < 0 then (some (-1)) else (laws_szFixS.l0 k u q (wrap64 (l + 1))))) else (none)) else (some y)
def laws_szFixS.f (k : Nat) (l : List (S92)) (q : Int) : Option (Int) := if (wrap64 (q - (l.length : Int))) < 0 then (some (-1)) else (laws_szFixS.l0 k l (wrap64 (q - (l.length : Int))) 0)
theorem laws_szFixS.calls (k) (A0) (c0) (q : List (S92)) (a1) (r) (w) (m0 : Kd.C k92 w A0 q.length q) (n0 : q.length ≤ c0) (h : laws_szFixS.f k q a1 = some r) :
 Calls Try.prog 28 #[.slice A0 q.length c0, .int .i64 a1] w fun e w' => e = .returned (.int .i64 r) ∧ Below w.heap.size w w' := by
 have C0 := Try.underlying92
 have o0 := zK m0
 have E0 := zK n0
 clear m0 n0
 have HB := zK (Below.refl w.heap.size w)
 have H : (if (wrap64 (a1 - (q.length : Int))) < 0 then (some (-1)) else (laws_szFixS.l0 k q (wrap64 (a1 - (q.length : Int))) 0)) = some r := h
 clear h
 by_cases U : (wrap64 (a1 - (q.length : Int))) < 0
 · rw [if_pos U] at H
   have e0 := z1 U
   clear U
   obtain rfl := z5 H
   go_enter Try.func28, Try.ntmps28
   go_wp2
   go_ret
   exact ⟨zE, zB⟩
 rw [if_neg U] at H
 have e0 := z2 U
 clear U
 have H' := zK H
 clear H
 go_enter Try.func28, Try.ntmps28
 go_wp2
 go_loopg [1, 5] k (fun kq v1 v5 w' => ∃ (B : Int) (l : Int), v1 = .int .i64 B ∧ v5 = .int .i64 l ∧ Aside0 (laws_szFixS.l0 kq q B l = some r) ∧ Aside0 (kq ≤ k) ∧ Aside0 (Below w.heap.size w w'))
 case atStart => exact ⟨(wrap64 (a1 - (q.length : Int))), (0), zR, zR, H', ⟨Nat.le_refl _⟩, ⟨zB⟩⟩
 clear H'
 try clear c2
 try clear p2
 try clear U
 try clear e0
 obtain ⟨B, l, rfl, rfl, HA, p0, HB⟩ := hrel
 rcases gk with _ | k1
 · exact absurd HA.out (by simp [laws_szFixS.l0])
 have H := HA.out
 clear HA
 simp only [laws_szFixS.l0] at H
 by_cases c4 : l < (q.length : Int)
 rotate_left
 · rw [if_neg c4] at H
   have s0 := z2 c4
   clear c4
   obtain rfl := z5 H
   go_wp2
   go_ret
   exact ⟨zE, zB⟩
 rw [if_pos c4] at H
 have s0 := z1 c4
 clear c4
 by_cases c5 : 0 ≤ l
 rotate_left
 · rw [if_neg c5] at H
   exact absurd H (by simp)
 rw [if_pos c5] at H
 have D0 := z1 c5
 clear c5
 replace H := z6 H
 obtain ⟨T, q0, H⟩ := H
 have A6 := zK q0
 clear q0
 by_cases c7 : T < 0
 · rw [if_pos c7] at H
   have t0 := z1 c7
   clear c7
   obtain rfl := z5 H
   have E : 0 ≤ (l : Int) := z3
   have I : l < (q.length : Int) := z3
   obtain ⟨j0, M, O, X, u, y, z, A⟩ := at_T92 o0.out l E I
   cases X
   (try replace u := zX HB u)
   (try replace y := zX HB y)
   have J := zK A
   have L := zK z
   clear A z
   replace E := eq_true E
   replace I := eq_true I
   go_wp2_with (first | ((with_reducible refine gc 53 rfl ?_); refine zF 23 Try.func53 #[.agg #[.int .i64 ((rd_T92 q l).f0), .slice M ((rd_T92 q l).f1).length O], .int .i64 B] rfl zL ?_; refine (laws_szFix.calls ((rd_T92 q l).f0) _ _ ((rd_T92 q l).f1) B T _ (zS J) L.out A6.out).mono ?_; rintro e w8 ⟨rfl, hb⟩; refine ⟨_, rfl, ?_⟩; have g0 := z8 hb; revert g0; clear HB; intro HB))
   go_ret
   exact ⟨zE, zB⟩
 rw [if_neg c7] at H
 have t0 := z2 c7
 clear c7
 have H' := zK H
 clear H
 have E : 0 ≤ (l : Int) := z3
 have I : l < (q.length : Int) := z3
 obtain ⟨j0, M, O, X, u, y, z, A⟩ := at_T92 o0.out l E I
 cases X
 (try replace u := zX HB u)
 (try replace y := zX HB y)
 have J := zK A
 have L := zK z
 clear A z
 replace E := eq_true E
 replace I := eq_true I
 go_wp2_with (first | ((with_reducible refine gc 53 rfl ?_); refine zF 23 Try.func53 #[.agg #[.int .i64 ((rd_T92 q l).f0), .slice M ((rd_T92 q l).f1).length O], .int .i64 B] rfl zL ?_; refine (laws_szFix.calls ((rd_T92 q l).f0) _ _ ((rd_T92 q l).f1) B T _ (zS J) L.out A6.out).mono ?_; rintro e w9 ⟨rfl, hb⟩; refine ⟨_, rfl, ?_⟩; have g0 := z8 hb; revert g0; clear HB; intro HB))
 go_roundg k1
 case measure => have := p0.out; omega
 case rel => exact ⟨(T), (wrap64 (l + 1)), zR, zR, H', ⟨by have := p0.out; omega⟩, ⟨zB⟩⟩
def laws_szAccess.f (u : Int) (y : Int) (q : List Int) (z : Int) : Option (Int) := (laws_szIntS.f q z).bind fun l => (if l < 0 then (some (-1)) else (some l))
theorem laws_szAccess.calls (z) (A) (u) (y) (l : List Int) (J) (r) (w) (B : Kd.C (Kd.int .i64) w u l.length l) (E : l.length ≤ y) (h : laws_szAccess.f z A l J = some r) :
 Calls Try.prog 74 #[.agg #[.int .i64 z, .int .i64 A, .slice u l.length y], .int .i64 J] w fun e w' => e = .returned (.int .i64 r) ∧ Below w.heap.size w w' := by
 have o0 := Try.underlying95
 have L := zK B
 have M := zK E
 clear B E
 have HB := zK (Below.refl w.heap.size w)
 have H : ((laws_szIntS.f l J).bind fun q => (if q < 0 then (some (-1)) else (some q))) = some r := h
 clear h
 replace H := z6 H
 obtain ⟨q, T, H⟩ := H
 have A3 := zK T
 clear T
 by_cases I : q < 0
 rw [if_pos I] at H
 have U := z1 I
 clear I
 obtain rfl := z5 H
 rotate_left
 rw [if_neg I] at H
 have U := z2 I
 clear I
 obtain rfl := z5 H
 all_goals go_enter Try.func74, Try.ntmps74
 all_goals go_wp2_with (first | ((with_reducible refine gd 2 rfl ?_); refine zJ 2 #[.int .i64 z, .int .i64 A, .slice u l.length y] 95 ?_; intro l0 hg w7 hbox hb; have X := z8 hb; have a0 := zK (hbox); have b0 := z9 hg; have c0 := z9 hg; revert X a0 b0 c0; clear HB; intro HB O m0 n0; clear hb hbox hg; obtain ⟨d0, e0, f0, g0, i0, j0⟩ := zc3 O) | ((with_reducible refine gc 19 rfl ?_); refine zF 8 Try.func19 #[.slice u l.length y, .int .i64 J] rfl zL ?_; refine (laws_szIntS.calls _ _ l J q _ (zS L) M.out A3.out).mono ?_; rintro e w' ⟨rfl, ⟨nd, rfl⟩⟩; refine ⟨_, rfl, ?_⟩))
 all_goals go_ret
 all_goals exact ⟨zE, zB⟩
def laws_szAccessS.l0 : Nat → List (S95) → Int → Int → Option (Int)
 | 0, _, _, _ => none
 | k + 1, q, y, l => if l < (q.length : Int) then (if 0 ≤ l then ((laws_szAccess.f ((rd_T95 q l).f0) ((rd_T95 q l).f1) ((rd_T95 q l).f2) y).bind fun u => (if u < 0 then (some (-1)) else (laws_szAccessS.l0 k q u (wrap64 (l + 1))))) else (none)) else (some y)
def laws_szAccessS.f (k : Nat) (l : List (S95)) (q : Int) : Option (Int) := if (wrap64 (q - (l.length : Int))) < 0 then (some (-1)) else (laws_szAccessS.l0 k l (wrap64 (q - (l.length : Int))) 0)
theorem laws_szAccessS.calls (k) (A0) (c0) (q : List (S95)) (a1) (r) (w) (n0 : Kd.C k95 w A0 q.length q) (o0 : q.length ≤ c0) (h : laws_szAccessS.f k q a1 = some r) :
 Calls Try.prog 73 #[.slice A0 q.length c0, .int .i64 a1] w fun e w' => e = .returned (.int .i64 r) ∧ Below w.heap.size w w' := by
 have D0 := Try.underlying95
 have p0 := zK n0
 have F0 := zK o0
 clear n0 o0
 have HB := zK (Below.refl w.heap.size w)
 have H : (if (wrap64 (a1 - (q.length : Int))) < 0 then (some (-1)) else (laws_szAccessS.l0 k q (wrap64 (a1 - (q.length : Int))) 0)) = some r := h
 clear h
 by_cases X : (wrap64 (a1 - (q.length : Int))) < 0
 · rw [if_pos X] at H
   have g0 := z1 X
   clear X
   obtain rfl := z5 H
   go_enter Try.func73, Try.ntmps73
   go_wp2
   go_ret
   exact ⟨zE, zB⟩
 rw [if_neg X] at H
 have g0 := z2 X
 clear X
 have H' := zK H
 clear H
 go_enter Try.func73, Try.ntmps73
 go_wp2
 go_loopg [1, 5] k (fun kq v1 v5 w' => ∃ (E : Int) (l : Int), v1 = .int .i64 E ∧ v5 = .int .i64 l ∧ Aside0 (laws_szAccessS.l0 kq q E l = some r) ∧ Aside0 (kq ≤ k) ∧ Aside0 (Below w.heap.size w w'))
 case atStart => exact ⟨(wrap64 (a1 - (q.length : Int))), (0), zR, zR, H', ⟨Nat.le_refl _⟩, ⟨zB⟩⟩
 clear H'
 try clear p2
 try clear X
 try clear g0
 obtain ⟨E, l, rfl, rfl, HA, q0, HB⟩ := hrel
 rcases gk with _ | k1
 · exact absurd HA.out (by simp [laws_szAccessS.l0])
 have H := HA.out
 clear HA
 simp only [laws_szAccessS.l0] at H
 by_cases c4 : l < (q.length : Int)
 rotate_left
 · rw [if_neg c4] at H
   have t0 := z2 c4
   clear c4
   obtain rfl := z5 H
   go_wp2
   go_ret
   exact ⟨zE, zB⟩
 rw [if_pos c4] at H
 have t0 := z1 c4
 clear c4
 by_cases c5 : 0 ≤ l
 rotate_left
 · rw [if_neg c5] at H
   exact absurd H (by simp)
 rw [if_pos c5] at H
 have E0 := z1 c5
 clear c5
 replace H := z6 H
 obtain ⟨U, s0, H⟩ := H
 have A6 := zK s0
 clear s0
 by_cases c7 : U < 0
 · rw [if_pos c7] at H
   have x0 := z1 c7
   clear c7
   obtain rfl := z5 H
   have I : 0 ≤ (l : Int) := z3
   have J : l < (q.length : Int) := z3
   obtain ⟨m0, O, T, a0, u, y, z, A, B⟩ := at_T95 p0.out l I J
   cases a0
   (try replace u := zX HB u)
   (try replace y := zX HB y)
   (try replace z := zX HB z)
   have L := zK B
   have M := zK A
   clear B A
   replace I := eq_true I
   replace J := eq_true J
   go_wp2_with (first | ((with_reducible refine gc 74 rfl ?_); refine zF 23 Try.func74 #[.agg #[.int .i64 ((rd_T95 q l).f0), .int .i64 ((rd_T95 q l).f1), .slice O ((rd_T95 q l).f2).length T], .int .i64 E] rfl zL ?_; refine (laws_szAccess.calls ((rd_T95 q l).f0) ((rd_T95 q l).f1) _ _ ((rd_T95 q l).f2) E U _ (zS L) M.out A6.out).mono ?_; rintro e w8 ⟨rfl, hb⟩; refine ⟨_, rfl, ?_⟩; have i0 := z8 hb; revert i0; clear HB; intro HB))
   go_ret
   exact ⟨zE, zB⟩
 rw [if_neg c7] at H
 have x0 := z2 c7
 clear c7
 have H' := zK H
 clear H
 have I : 0 ≤ (l : Int) := z3
 have J : l < (q.length : Int) := z3
 obtain ⟨m0, O, T, a0, u, y, z, A, B⟩ := at_T95 p0.out l I J
 cases a0
 (try replace u := zX HB u)
 (try replace y := zX HB y)
 (try replace z := zX HB z)
 have L := zK B
 have M := zK A
 clear B A
 replace I := eq_true I
 replace J := eq_true J
 go_wp2_with (first | ((with_reducible refine gc 74 rfl ?_); refine zF 23 Try.func74 #[.agg #[.int .i64 ((rd_T95 q l).f0), .int .i64 ((rd_T95 q l).f1), .slice O ((rd_T95 q l).f2).length T], .int .i64 E] rfl zL ?_; refine (laws_szAccess.calls ((rd_T95 q l).f0) ((rd_T95 q l).f1) _ _ ((rd_T95 q l).f2) E U _ (zS L) M.out A6.out).mono ?_; rintro e w9 ⟨rfl, hb⟩; refine ⟨_, rfl, ?_⟩; have i0 := z8 hb; revert i0; clear HB; intro HB))
 go_roundg k1
 case measure => have := q0.out; omega
 case rel => exact ⟨(U), (wrap64 (l + 1)), zR, zR, H', ⟨by have := q0.out; omega⟩, ⟨zB⟩⟩
def laws_szCalcS.f (l : List (S124)) (q : Int) : Option (Int) := if (wrap64 (q - (l.length : Int))) < 0 then (some (-1)) else (some (wrap64 (q - (l.length : Int))))
theorem laws_szCalcS.calls (B) (E) (l : List (S124)) (u) (r) (w) (y : Kd.C k124 w B l.length l) (z : l.length ≤ E) (h : laws_szCalcS.f l u = some r) :
 Calls Try.prog 75 #[.slice B l.length E, .int .i64 u] w fun e w' => e = .returned (.int .i64 r) ∧ Drawn0 w w' := by
 have I := zK y
 have J := zK z
 clear y z
 have H : (if (wrap64 (u - (l.length : Int))) < 0 then (some (-1)) else (some (wrap64 (u - (l.length : Int))))) = some r := h
 clear h
 by_cases q : (wrap64 (u - (l.length : Int))) < 0
 · rw [if_pos q] at H
   have A := z1 q
   clear q
   obtain rfl := z5 H
   go_enter Try.func75, Try.ntmps75
   go_wp2
   go_ret
   exact ⟨zR, zD⟩
 rw [if_neg q] at H
 have A := z2 q
 clear q
 obtain rfl := z5 H
 go_enter Try.func75, Try.ntmps75
 go_wp2
 go_ret
 exact ⟨zR, zD⟩
def laws_szKernel.f (k : Nat) (z : List Int) (A : List (S95)) (B : Int) (E : Int) (I : List Int) (L : Bool) (J : List (S124)) (M : Int) : Option (Int) := (laws_szIntS.f z M).bind fun l => (if l < 0 then (some (-1)) else ((laws_szAccessS.f k A l).bind fun q => (if q < 0 then (some (-1)) else ((laws_szAccess.f B E I q).bind fun u => (if u < 0 then (some (-1)) else ((laws_szCalcS.f J u).bind fun y => (if y < 0 then (some (-1)) else (some y))))))))
theorem laws_szKernel.calls (k) (T) (U) (q : List Int) (X) (a0) (u : List (S95)) (I) (J) (b0) (c0) (y : List Int) (i0 : Bool) (d0) (e0) (z : List (S124)) (a1) (r) (w) (j0 : Kd.C (Kd.int .i64) w T q.length q) (l0 : q.length ≤ U) (m0 : Kd.C k95 w X u.length u) (n0 : u.length ≤ a0) (o0 : Kd.C (Kd.int .i64) w b0 y.length y) (p0 : y.length ≤ c0) (q0 : Kd.C k124 w d0 z.length z) (s0 : z.length ≤ e0) (h : laws_szKernel.f k q u I J y i0 z a1 = some r) :
 Calls Try.prog 54 #[.agg #[.slice T q.length U, .slice X u.length a0, .int .i64 I, .int .i64 J, .slice b0 y.length c0, .bool i0, .slice d0 z.length e0], .int .i64 a1] w fun e w' => e = .returned (.int .i64 r) ∧ Below w.heap.size w w' := by
 have l2 := Try.underlying98
 have m2 := Try.underlying95
 have C0 := zK j0
 have D0 := zK l0
 clear j0 l0
 have E0 := zK m0
 have F0 := zK n0
 clear m0 n0
 have G0 := zK o0
 have I0 := zK p0
 clear o0 p0
 have J0 := zK q0
 have L0 := zK s0
 clear q0 s0
 have HB := zK (Below.refl w.heap.size w)
 have H : ((laws_szIntS.f q a1).bind fun A => (if A < 0 then (some (-1)) else ((laws_szAccessS.f k u A).bind fun B => (if B < 0 then (some (-1)) else ((laws_szAccess.f I J y B).bind fun E => (if E < 0 then (some (-1)) else ((laws_szCalcS.f z E).bind fun L => (if L < 0 then (some (-1)) else (some L))))))))) = some r := h
 clear h
 replace H := z6 H
 obtain ⟨A, O0, H⟩ := H
 have A3 := zK O0
 clear O0
 by_cases c4 : A < 0
 rw [if_pos c4] at H
 have S0 := z1 c4
 clear c4
 obtain rfl := z5 H
 rotate_left
 rw [if_neg c4] at H
 have S0 := z2 c4
 clear c4
 replace H := z6 H
 obtain ⟨B, R0, H⟩ := H
 have A7 := zK R0
 clear R0
 by_cases c8 : B < 0
 rw [if_pos c8] at H
 have T0 := z1 c8
 clear c8
 obtain rfl := z5 H
 rotate_left
 rw [if_neg c8] at H
 have T0 := z2 c8
 clear c8
 replace H := z6 H
 obtain ⟨E, A0, H⟩ := H
 have c2 := zK A0
 clear A0
 by_cases M : E < 0
 rw [if_pos M] at H
 have M0 := z1 M
 clear M
 obtain rfl := z5 H
 rotate_left
 rw [if_neg M] at H
 have M0 := z2 M
 clear M
 replace H := z6 H
 obtain ⟨L, B0, H⟩ := H
 have d2 := zK B0
 clear B0
 by_cases O : L < 0
 rw [if_pos O] at H
 have N0 := z1 O
 clear O
 obtain rfl := z5 H
 rotate_left
 rw [if_neg O] at H
 have N0 := z2 O
 clear O
 obtain rfl := z5 H
 all_goals go_enter Try.func54, Try.ntmps54
 all_goals go_wp2_with (first | ((with_reducible refine gd 2 rfl ?_); refine zJ 2 #[.slice T q.length U, .slice X u.length a0, .int .i64 I, .int .i64 J, .slice b0 y.length c0, .bool i0, .slice d0 z.length e0] 98 ?_; intro g2 hg p2 hbox hb; have f0 := z8 hb; have g0 := zK (hbox); have e2 := z9 hg; have f2 := z9 hg; revert f0 g0 e2 f2; clear HB; intro HB l i2 j2; clear hb hbox hg; obtain ⟨U0, V0, X0, b1, c1, d1, e1, f1, g1, i1, j1, l1, m1, n1⟩ := zc7 l) | ((with_reducible refine gc 19 rfl ?_); refine zF 8 Try.func19 #[.slice T q.length U, .int .i64 a1] rfl zL ?_; refine (laws_szIntS.calls _ _ q a1 A _ (zS C0) D0.out A3.out).mono ?_; rintro e w' ⟨rfl, ⟨nd, rfl⟩⟩; refine ⟨_, rfl, ?_⟩) | ((with_reducible refine gc 73 rfl ?_); refine zF 14 Try.func73 #[.slice X u.length a0, .int .i64 A] rfl zL ?_; refine (laws_szAccessS.calls k _ _ u A B _ (zS E0) F0.out A7.out).mono ?_; rintro e q2 ⟨rfl, hb⟩; refine ⟨_, rfl, ?_⟩; have f0 := z7 l hb; have g0 := z8 hb; revert f0 g0; clear l HB; intro l HB; obtain ⟨o1, p1, q1, s1, t1, x1, y1, A1, B1, C1, D1, E1, F1, G1⟩ := zc7 l) | ((with_reducible refine gc 74 rfl ?_); refine zF 20 Try.func74 #[.agg #[.int .i64 I, .int .i64 J, .slice b0 y.length c0], .int .i64 B] rfl zL ?_; refine (laws_szAccess.calls I J _ _ y B E _ (zS G0) I0.out c2.out).mono ?_; rintro e s2 ⟨rfl, hb⟩; refine ⟨_, rfl, ?_⟩; have f0 := z7 l hb; have g0 := z8 hb; revert f0 g0; clear l HB; intro l HB; obtain ⟨I1, J1, L1, M1, N1, O1, R1, S1, T1, U1, V1, X1, a2, b2⟩ := zc7 l) | ((with_reducible refine gc 75 rfl ?_); refine zF 26 Try.func75 #[.slice d0 z.length e0, .int .i64 E] rfl zL ?_; refine (laws_szCalcS.calls _ _ z E L _ (zS J0) L0.out d2.out).mono ?_; rintro e w' ⟨rfl, ⟨nd, rfl⟩⟩; refine ⟨_, rfl, ?_⟩))
 all_goals go_ret
 all_goals exact ⟨zE, zB⟩
def laws_szKernelS.l0 : Nat → List (S98) → Int → Int → Option (Int)
 | 0, _, _, _ => none
 | k + 1, q, y, l => if l < (q.length : Int) then (if 0 ≤ l then ((laws_szKernel.f k ((rd_T98 q l).f0) ((rd_T98 q l).f1) ((rd_T98 q l).f2.f0) ((rd_T98 q l).f2.f1) ((rd_T98 q l).f2.f2) ((rd_T98 q l).f3) ((rd_T98 q l).f4) y).bind fun u => (if u < 0 then (some (-1)) else (laws_szKernelS.l0 k q u (wrap64 (l + 1))))) else (none)) else (some y)
def laws_szKernelS.f (k : Nat) (l : List (S98)) (q : Int) : Option (Int) := if (wrap64 (q - (l.length : Int))) < 0 then (some (-1)) else (laws_szKernelS.l0 k l (wrap64 (q - (l.length : Int))) 0)
theorem laws_szKernelS.calls (k) (A0) (c0) (q : List (S98)) (a1) (r) (w) (T0 : Kd.C k98 w A0 q.length q) (U0 : q.length ≤ c0) (h : laws_szKernelS.f k q a1 = some r) :
 Calls Try.prog 29 #[.slice A0 q.length c0, .int .i64 a1] w fun e w' => e = .returned (.int .i64 r) ∧ Below w.heap.size w w' := by
 have j1 := Try.underlying98
 have V0 := zK T0
 have m1 := zK U0
 clear T0 U0
 have HB := zK (Below.refl w.heap.size w)
 have H : (if (wrap64 (a1 - (q.length : Int))) < 0 then (some (-1)) else (laws_szKernelS.l0 k q (wrap64 (a1 - (q.length : Int))) 0)) = some r := h
 clear h
 by_cases c3 : (wrap64 (a1 - (q.length : Int))) < 0
 · rw [if_pos c3] at H
   have N0 := z1 c3
   clear c3
   obtain rfl := z5 H
   go_enter Try.func29, Try.ntmps29
   go_wp2
   go_ret
   exact ⟨zE, zB⟩
 rw [if_neg c3] at H
 have N0 := z2 c3
 clear c3
 have H' := zK H
 clear H
 go_enter Try.func29, Try.ntmps29
 go_wp2
 go_loopg [1, 5] k (fun kq v1 v5 w' => ∃ (b0 : Int) (l : Int), v1 = .int .i64 b0 ∧ v5 = .int .i64 l ∧ Aside0 (laws_szKernelS.l0 kq q b0 l = some r) ∧ Aside0 (kq ≤ k) ∧ Aside0 (Below w.heap.size w w'))
 case atStart => exact ⟨(wrap64 (a1 - (q.length : Int))), (0), zR, zR, H', ⟨Nat.le_refl _⟩, ⟨zB⟩⟩
 clear H'
 try clear c2
 try clear p2
 try clear c3
 try clear N0
 obtain ⟨b0, l, rfl, rfl, HA, X0, HB⟩ := hrel
 rcases gk with _ | k1
 · exact absurd HA.out (by simp [laws_szKernelS.l0])
 have H := HA.out
 clear HA
 simp only [laws_szKernelS.l0] at H
 by_cases c4 : l < (q.length : Int)
 rotate_left
 · rw [if_neg c4] at H
   have c1 := z2 c4
   clear c4
   obtain rfl := z5 H
   go_wp2
   go_ret
   exact ⟨zE, zB⟩
 rw [if_pos c4] at H
 have c1 := z1 c4
 clear c4
 by_cases c5 : 0 ≤ l
 rotate_left
 · rw [if_neg c5] at H
   exact absurd H (by simp)
 rw [if_pos c5] at H
 have l1 := z1 c5
 clear c5
 replace H := z6 H
 obtain ⟨F0, b1, H⟩ := H
 have A6 := zK b1
 clear b1
 by_cases c7 : F0 < 0
 · rw [if_pos c7] at H
   have d1 := z1 c7
   clear c7
   obtain rfl := z5 H
   have d0 : 0 ≤ (l : Int) := z3
   have e0 : l < (q.length : Int) := z3
   obtain ⟨S0, s0, t0, x0, y0, B0, C0, D0, E0, I0, u, y, z, A, B, E, I, J, L, M, O, T, U, X, a0⟩ := at_T98 V0.out l d0 e0
   cases I0
   (try replace u := zX HB u)
   (try replace y := zX HB y)
   (try replace z := zX HB z)
   (try replace A := zX HB A)
   (try replace B := zX HB B)
   (try replace E := zX HB E)
   (try replace I := zX HB I)
   have g0 := zK L
   have i0 := zK J
   clear L J
   have j0 := zK O
   have m0 := zK M
   clear O M
   have n0 := zK U
   have o0 := zK T
   clear U T
   have p0 := zK a0
   have q0 := zK X
   clear a0 X
   replace d0 := eq_true d0
   replace e0 := eq_true e0
   go_wp2_with (first | ((with_reducible refine gc 54 rfl ?_); refine zF 23 Try.func54 #[.agg #[.slice s0 ((rd_T98 q l).f0).length t0, .slice x0 ((rd_T98 q l).f1).length y0, .int .i64 ((rd_T98 q l).f2.f0), .int .i64 ((rd_T98 q l).f2.f1), .slice B0 ((rd_T98 q l).f2.f2).length C0, .bool ((rd_T98 q l).f3), .slice D0 ((rd_T98 q l).f4).length E0], .int .i64 b0] rfl zL ?_; refine (laws_szKernel.calls k1 _ _ ((rd_T98 q l).f0) _ _ ((rd_T98 q l).f1) ((rd_T98 q l).f2.f0) ((rd_T98 q l).f2.f1) _ _ ((rd_T98 q l).f2.f2) ((rd_T98 q l).f3) _ _ ((rd_T98 q l).f4) b0 F0 _ (zS g0) i0.out (zS j0) m0.out (zS n0) o0.out (zS p0) q0.out A6.out).mono ?_; rintro e w8 ⟨rfl, hb⟩; refine ⟨_, rfl, ?_⟩; have O0 := z8 hb; revert O0; clear HB; intro HB))
   go_ret
   exact ⟨zE, zB⟩
 rw [if_neg c7] at H
 have d1 := z2 c7
 clear c7
 have H' := zK H
 clear H
 have d0 : 0 ≤ (l : Int) := z3
 have e0 : l < (q.length : Int) := z3
 obtain ⟨S0, s0, t0, x0, y0, B0, C0, D0, E0, I0, u, y, z, A, B, E, I, J, L, M, O, T, U, X, a0⟩ := at_T98 V0.out l d0 e0
 cases I0
 (try replace u := zX HB u)
 (try replace y := zX HB y)
 (try replace z := zX HB z)
 (try replace A := zX HB A)
 (try replace B := zX HB B)
 (try replace E := zX HB E)
 (try replace I := zX HB I)
 have g0 := zK L
 have i0 := zK J
 clear L J
 have j0 := zK O
 have m0 := zK M
 clear O M
 have n0 := zK U
 have o0 := zK T
 clear U T
 have p0 := zK a0
 have q0 := zK X
 clear a0 X
 replace d0 := eq_true d0
 replace e0 := eq_true e0
 go_wp2_with (first | ((with_reducible refine gc 54 rfl ?_); refine zF 23 Try.func54 #[.agg #[.slice s0 ((rd_T98 q l).f0).length t0, .slice x0 ((rd_T98 q l).f1).length y0, .int .i64 ((rd_T98 q l).f2.f0), .int .i64 ((rd_T98 q l).f2.f1), .slice B0 ((rd_T98 q l).f2.f2).length C0, .bool ((rd_T98 q l).f3), .slice D0 ((rd_T98 q l).f4).length E0], .int .i64 b0] rfl zL ?_; refine (laws_szKernel.calls k1 _ _ ((rd_T98 q l).f0) _ _ ((rd_T98 q l).f1) ((rd_T98 q l).f2.f0) ((rd_T98 q l).f2.f1) _ _ ((rd_T98 q l).f2.f2) ((rd_T98 q l).f3) _ _ ((rd_T98 q l).f4) b0 F0 _ (zS g0) i0.out (zS j0) m0.out (zS n0) o0.out (zS p0) q0.out A6.out).mono ?_; rintro e w9 ⟨rfl, hb⟩; refine ⟨_, rfl, ?_⟩; have O0 := z8 hb; revert O0; clear HB; intro HB))
 go_roundg k1
 case measure => have := X0.out; omega
 case rel => exact ⟨(F0), (wrap64 (l + 1)), zR, zR, H', ⟨by have := X0.out; omega⟩, ⟨zB⟩⟩
def laws_szNest.f (k : Nat) (A : List Int) (B : List Int) (E : List (S92)) (I : List (S98)) (J : List Int) (L : Int) : Option (Int) := (laws_szIntS.f A L).bind fun l => (if l < 0 then (some (-1)) else ((laws_szIntS.f B l).bind fun q => (if q < 0 then (some (-1)) else ((laws_szFixS.f k E q).bind fun u => (if u < 0 then (some (-1)) else ((laws_szKernelS.f k I u).bind fun y => (if y < 0 then (some (-1)) else ((laws_szIntS.f J y).bind fun z => (if z < 0 then (some (-1)) else (some z))))))))))
theorem laws_szNest.calls (k) (U) (X) (q : List Int) (a0) (b0) (u : List Int) (c0) (d0) (y : List (S92)) (e0) (f0) (z : List (S98)) (g0) (i0) (A : List Int) (a1) (r) (w) (m0 : Kd.C (Kd.int .i64) w U q.length q) (n0 : q.length ≤ X) (o0 : Kd.C (Kd.int .i64) w a0 u.length u) (p0 : u.length ≤ b0) (q0 : Kd.C k92 w c0 y.length y) (s0 : y.length ≤ d0) (t0 : Kd.C k98 w e0 z.length z) (x0 : z.length ≤ f0) (y0 : Kd.C (Kd.int .i64) w g0 A.length A) (A0 : A.length ≤ i0) (h : laws_szNest.f k q u y z A a1 = some r) :
 Calls Try.prog 10 #[.agg #[.slice U q.length X, .slice a0 u.length b0, .slice c0 y.length d0, .slice e0 z.length f0, .slice g0 A.length i0], .int .i64 a1] w fun e w' => e = .returned (.int .i64 r) ∧ Below w.heap.size w w' := by
 have g2 := Try.underlying26
 have I0 := zK m0
 have J0 := zK n0
 clear m0 n0
 have L0 := zK o0
 have M0 := zK p0
 clear o0 p0
 have N0 := zK q0
 have O0 := zK s0
 clear q0 s0
 have R0 := zK t0
 have S0 := zK x0
 clear t0 x0
 have T0 := zK y0
 have U0 := zK A0
 clear y0 A0
 have HB := zK (Below.refl w.heap.size w)
 have H : ((laws_szIntS.f q a1).bind fun B => (if B < 0 then (some (-1)) else ((laws_szIntS.f u B).bind fun E => (if E < 0 then (some (-1)) else ((laws_szFixS.f k y E).bind fun I => (if I < 0 then (some (-1)) else ((laws_szKernelS.f k z I).bind fun J => (if J < 0 then (some (-1)) else ((laws_szIntS.f A J).bind fun L => (if L < 0 then (some (-1)) else (some L))))))))))) = some r := h
 clear h
 replace H := z6 H
 obtain ⟨B, c1, H⟩ := H
 have A3 := zK c1
 clear c1
 by_cases c4 : B < 0
 rw [if_pos c4] at H
 have e1 := z1 c4
 clear c4
 obtain rfl := z5 H
 rotate_left
 rw [if_neg c4] at H
 have e1 := z2 c4
 clear c4
 replace H := z6 H
 obtain ⟨E, d1, H⟩ := H
 have A7 := zK d1
 clear d1
 by_cases c8 : E < 0
 rw [if_pos c8] at H
 have f1 := z1 c8
 clear c8
 obtain rfl := z5 H
 rotate_left
 rw [if_neg c8] at H
 have f1 := z2 c8
 clear c8
 replace H := z6 H
 obtain ⟨I, E0, H⟩ := H
 have V1 := zK E0
 clear E0
 by_cases M : I < 0
 rw [if_pos M] at H
 have V0 := z1 M
 clear M
 obtain rfl := z5 H
 rotate_left
 rw [if_neg M] at H
 have V0 := z2 M
 clear M
 replace H := z6 H
 obtain ⟨J, F0, H⟩ := H
 have X1 := zK F0
 clear F0
 by_cases O : J < 0
 rw [if_pos O] at H
 have X0 := z1 O
 clear O
 obtain rfl := z5 H
 rotate_left
 rw [if_neg O] at H
 have X0 := z2 O
 clear O
 replace H := z6 H
 obtain ⟨L, G0, H⟩ := H
 have a2 := zK G0
 clear G0
 by_cases T : L < 0
 rw [if_pos T] at H
 have b1 := z1 T
 clear T
 obtain rfl := z5 H
 rotate_left
 rw [if_neg T] at H
 have b1 := z2 T
 clear T
 obtain rfl := z5 H
 all_goals go_enter Try.func10, Try.ntmps10
 all_goals go_wp2_with (first | ((with_reducible refine gd 2 rfl ?_); refine zJ 2 #[.slice U q.length X, .slice a0 u.length b0, .slice c0 y.length d0, .slice e0 z.length f0, .slice g0 A.length i0] 26 ?_; intro d2 hg l2 hbox hb; have j0 := z8 hb; have l0 := zK (hbox); have b2 := z9 hg; have c2 := z9 hg; revert j0 l0 b2 c2; clear HB; intro HB l e2 f2; clear hb hbox hg; obtain ⟨g1, i1, j1, l1, m1, n1, o1, p1, q1, s1⟩ := zc5 l) | ((with_reducible refine gc 19 rfl ?_); refine zF 8 Try.func19 #[.slice U q.length X, .int .i64 a1] rfl zL ?_; refine (laws_szIntS.calls _ _ q a1 B _ (zS I0) J0.out A3.out).mono ?_; rintro e w' ⟨rfl, ⟨nd, rfl⟩⟩; refine ⟨_, rfl, ?_⟩) | ((with_reducible refine gc 19 rfl ?_); refine zF 14 Try.func19 #[.slice a0 u.length b0, .int .i64 B] rfl zL ?_; refine (laws_szIntS.calls _ _ u B E _ (zS L0) M0.out A7.out).mono ?_; rintro e w' ⟨rfl, ⟨nd, rfl⟩⟩; refine ⟨_, rfl, ?_⟩) | ((with_reducible refine gc 28 rfl ?_); refine zF 20 Try.func28 #[.slice c0 y.length d0, .int .i64 E] rfl zL ?_; refine (laws_szFixS.calls k _ _ y E I _ (zS N0) O0.out V1.out).mono ?_; rintro e m2 ⟨rfl, hb⟩; refine ⟨_, rfl, ?_⟩; have j0 := z7 l hb; have l0 := z8 hb; revert j0 l0; clear l HB; intro l HB; obtain ⟨t1, x1, y1, A1, B1, C1, D1, E1, F1, G1⟩ := zc5 l) | ((with_reducible refine gc 29 rfl ?_); refine zF 26 Try.func29 #[.slice e0 z.length f0, .int .i64 I] rfl zL ?_; refine (laws_szKernelS.calls k _ _ z I J _ (zS R0) S0.out X1.out).mono ?_; rintro e n2 ⟨rfl, hb⟩; refine ⟨_, rfl, ?_⟩; have j0 := z7 l hb; have l0 := z8 hb; revert j0 l0; clear l HB; intro l HB; obtain ⟨I1, J1, L1, M1, N1, O1, R1, S1, T1, U1⟩ := zc5 l) | ((with_reducible refine gc 19 rfl ?_); refine zF 32 Try.func19 #[.slice g0 A.length i0, .int .i64 J] rfl zL ?_; refine (laws_szIntS.calls _ _ A J L _ (zS T0) U0.out a2.out).mono ?_; rintro e w' ⟨rfl, ⟨nd, rfl⟩⟩; refine ⟨_, rfl, ?_⟩))
 all_goals go_ret
 all_goals exact ⟨zE, zB⟩
end Go.Proofs.Ytmcboiffbcnalaa.PFnExactLives
