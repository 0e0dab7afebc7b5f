-- Printed out of the translation by this session's own turned copy of a printer; Lean checks it.
import Derived.Test.YtdlhmhgpafegpaaPFnExactHouseOkx0
namespace Go.Proofs.Ytdlhmhgpafegpaa.PFnExactHouseOk
open Go.RowKit Go.Proofs.YtdlhmhgpafegpaaW.PrintWords Go.Proofs.YtdlhmhgpafegpaaW.PrintLast Go.Proofs.YtdlhmhgpafegpaaW.PrintMore
attribute [local go_sem] max2_int min2_int max_two min_two max_three min_three max_four min_four
set_option linter.unusedVariables false
set_option linter.unusedSimpArgs false
set_option maxHeartbeats 8000000
set_option maxRecDepth 100000
def laws_szIntS.f (l : List Int) (q : Int) : Option (Int) := if (wrap64 (q - (l.length : Int))) < 0 then (some (-1)) else (some (wrap64 (q - (l.length : Int))))
theorem laws_szIntS.calls (B) (E) (l : List Int) (u) (r) (w) (y : Kd.C (Kd.int .i64) w B l.length l) (z : l.length ≤ E) (h : laws_szIntS.f l u = some r) :
 Calls Try.prog 61 #[.slice B l.length E, .int .i64 u] w fun e w' => e = .returned (.int .i64 r) ∧ Drawn0 w w' := by
 have I := zK y
 have J := zK z
 clear y z
 have H : (if (wrap64 (u - (l.length : Int))) < 0 then (some (-1)) else (some (wrap64 (u - (l.length : Int))))) = some r := h
 clear h
 by_cases q : (wrap64 (u - (l.length : Int))) < 0
 · rw [if_pos q] at H
   have A := z1 q
   clear q
   obtain rfl := z5 H
   go_enter Try.func61, Try.ntmps61
   go_wp2
   go_ret
   exact ⟨zR, zD⟩
 rw [if_neg q] at H
 have A := z2 q
 clear q
 obtain rfl := z5 H
 go_enter Try.func61, Try.ntmps61
 go_wp2
 go_ret
 exact ⟨zR, zD⟩
def laws_szRow.f (u : List Int) (y : List Int) (z : Int) : Option (Int) := (laws_szIntS.f u z).bind fun l => (if l < 0 then (some (-1)) else ((laws_szIntS.f y l).bind fun q => (if q < 0 then (some (-1)) else (some q))))
theorem laws_szRow.calls (z) (A) (l : List Int) (B) (E) (q : List Int) (U) (r) (w) (I : Kd.C (Kd.int .i64) w z l.length l) (J : l.length ≤ A) (L : Kd.C (Kd.int .i64) w B q.length q) (M : q.length ≤ E) (h : laws_szRow.f l q U = some r) :
 Calls Try.prog 48 #[.agg #[.slice z l.length A, .slice B q.length E], .int .i64 U] w fun e w' => e = .returned (.int .i64 r) ∧ Below w.heap.size w w' := by
 have A0 := Try.underlying71
 have X := zK I
 have a0 := zK J
 clear I J
 have b0 := zK L
 have c0 := zK M
 clear L M
 have HB := zK (Below.refl w.heap.size w)
 have H : ((laws_szIntS.f l U).bind fun u => (if u < 0 then (some (-1)) else ((laws_szIntS.f q u).bind fun y => (if y < 0 then (some (-1)) else (some y))))) = some r := h
 clear h
 replace H := z6 H
 obtain ⟨u, e0, H⟩ := H
 have A3 := zK e0
 clear e0
 by_cases O : u < 0
 rw [if_pos O] at H
 have g0 := z1 O
 clear O
 obtain rfl := z5 H
 rotate_left
 rw [if_neg O] at H
 have g0 := z2 O
 clear O
 replace H := z6 H
 obtain ⟨y, f0, H⟩ := H
 have A7 := zK f0
 clear f0
 by_cases T : y < 0
 rw [if_pos T] at H
 have i0 := z1 T
 clear T
 obtain rfl := z5 H
 rotate_left
 rw [if_neg T] at H
 have i0 := z2 T
 clear T
 obtain rfl := z5 H
 all_goals go_enter Try.func48, Try.ntmps48
 all_goals go_wp2_with (first | ((with_reducible refine gd 2 rfl ?_); refine zJ 2 #[.slice z l.length A, .slice B q.length E] 71 ?_; intro t0 hg D0 hbox hb; have o0 := z8 hb; have p0 := zK (hbox); have q0 := z9 hg; have s0 := z9 hg; revert o0 p0 q0 s0; clear HB; intro HB d0 x0 y0; clear hb hbox hg; obtain ⟨j0, l0, m0, n0⟩ := zc2 d0) | ((with_reducible refine gc 61 rfl ?_); refine zF 8 Try.func61 #[.slice z l.length A, .int .i64 U] rfl zL ?_; refine (laws_szIntS.calls _ _ l U u _ (zS X) a0.out A3.out).mono ?_; rintro e w' ⟨rfl, ⟨nd, rfl⟩⟩; refine ⟨_, rfl, ?_⟩) | ((with_reducible refine gc 61 rfl ?_); refine zF 14 Try.func61 #[.slice B q.length E, .int .i64 u] rfl zL ?_; refine (laws_szIntS.calls _ _ q u y _ (zS b0) c0.out A7.out).mono ?_; rintro e w' ⟨rfl, ⟨nd, rfl⟩⟩; refine ⟨_, rfl, ?_⟩))
 all_goals go_ret
 all_goals exact ⟨zE, zB⟩
def laws_szRowS.l0 : Nat → List (S71) → Int → Int → Option (Int)
 | 0, _, _, _ => none
 | k + 1, u, y, l => if l < (u.length : Int) then (if 0 ≤ l then ((laws_szRow.f ((rd_T71 u l).f0) ((rd_T71 u l).f1) y).bind fun q => (if q < 0 then (some (-1)) else (laws_szRowS.l0 k u q (wrap64 (l + 1))))) else (none)) else (some y)
def laws_szRowS.f (k : Nat) (l : List (S71)) (q : Int) : Option (Int) := if (wrap64 (q - (l.length : Int))) < 0 then (some (-1)) else (laws_szRowS.l0 k l (wrap64 (q - (l.length : Int))) 0)
theorem laws_szRowS.calls (k) (A0) (c0) (q : List (S71)) (a1) (r) (w) (t0 : Kd.C k71 w A0 q.length q) (x0 : q.length ≤ c0) (h : laws_szRowS.f k q a1 = some r) :
 Calls Try.prog 26 #[.slice A0 q.length c0, .int .i64 a1] w fun e w' => e = .returned (.int .i64 r) ∧ Below w.heap.size w w' := by
 have J0 := Try.underlying71
 have y0 := zK t0
 have M0 := zK x0
 clear t0 x0
 have HB := zK (Below.refl w.heap.size w)
 have H : (if (wrap64 (a1 - (q.length : Int))) < 0 then (some (-1)) else (laws_szRowS.l0 k q (wrap64 (a1 - (q.length : Int))) 0)) = some r := h
 clear h
 by_cases c3 : (wrap64 (a1 - (q.length : Int))) < 0
 · rw [if_pos c3] at H
   have o0 := z1 c3
   clear c3
   obtain rfl := z5 H
   go_enter Try.func26, Try.ntmps26
   go_wp2
   go_ret
   exact ⟨zE, zB⟩
 rw [if_neg c3] at H
 have o0 := z2 c3
 clear c3
 have H' := zK H
 clear H
 go_enter Try.func26, Try.ntmps26
 go_wp2
 go_loopg [1, 5] k (fun kq v1 v5 w' => ∃ (I : Int) (l : Int), v1 = .int .i64 I ∧ v5 = .int .i64 l ∧ Aside0 (laws_szRowS.l0 kq q I l = some r) ∧ Aside0 (kq ≤ k) ∧ Aside0 (Below w.heap.size w w'))
 case atStart => exact ⟨(wrap64 (a1 - (q.length : Int))), (0), zR, zR, H', ⟨Nat.le_refl _⟩, ⟨zB⟩⟩
 clear H'
 try clear c2
 try clear p2
 try clear c3
 try clear o0
 obtain ⟨I, l, rfl, rfl, HA, B0, HB⟩ := hrel
 rcases gk with _ | k1
 · exact absurd HA.out (by simp [laws_szRowS.l0])
 have H := HA.out
 clear HA
 simp only [laws_szRowS.l0] at H
 by_cases c4 : l < (q.length : Int)
 rotate_left
 · rw [if_neg c4] at H
   have D0 := z2 c4
   clear c4
   obtain rfl := z5 H
   go_wp2
   go_ret
   exact ⟨zE, zB⟩
 rw [if_pos c4] at H
 have D0 := z1 c4
 clear c4
 by_cases c5 : 0 ≤ l
 rotate_left
 · rw [if_neg c5] at H
   exact absurd H (by simp)
 rw [if_pos c5] at H
 have L0 := z1 c5
 clear c5
 replace H := z6 H
 obtain ⟨e0, C0, H⟩ := H
 have A6 := zK C0
 clear C0
 by_cases c7 : e0 < 0
 · rw [if_pos c7] at H
   have E0 := z1 c7
   clear c7
   obtain rfl := z5 H
   have J : 0 ≤ (l : Int) := z3
   have L : l < (q.length : Int) := z3
   obtain ⟨s0, X, a0, b0, d0, i0, u, y, z, A, B, E⟩ := at_T71 y0.out l J L
   cases i0
   (try replace u := zX HB u)
   (try replace y := zX HB y)
   have M := zK A
   have O := zK z
   clear A z
   have T := zK E
   have U := zK B
   clear E B
   replace J := eq_true J
   replace L := eq_true L
   go_wp2_with (first | ((with_reducible refine gc 48 rfl ?_); refine zF 23 Try.func48 #[.agg #[.slice X ((rd_T71 q l).f0).length a0, .slice b0 ((rd_T71 q l).f1).length d0], .int .i64 I] rfl zL ?_; refine (laws_szRow.calls _ _ ((rd_T71 q l).f0) _ _ ((rd_T71 q l).f1) I e0 _ (zS M) O.out (zS T) U.out A6.out).mono ?_; rintro e w8 ⟨rfl, hb⟩; refine ⟨_, rfl, ?_⟩; have p0 := z8 hb; revert p0; clear HB; intro HB))
   go_ret
   exact ⟨zE, zB⟩
 rw [if_neg c7] at H
 have E0 := z2 c7
 clear c7
 have H' := zK H
 clear H
 have J : 0 ≤ (l : Int) := z3
 have L : l < (q.length : Int) := z3
 obtain ⟨s0, X, a0, b0, d0, i0, u, y, z, A, B, E⟩ := at_T71 y0.out l J L
 cases i0
 (try replace u := zX HB u)
 (try replace y := zX HB y)
 have M := zK A
 have O := zK z
 clear A z
 have T := zK E
 have U := zK B
 clear E B
 replace J := eq_true J
 replace L := eq_true L
 go_wp2_with (first | ((with_reducible refine gc 48 rfl ?_); refine zF 23 Try.func48 #[.agg #[.slice X ((rd_T71 q l).f0).length a0, .slice b0 ((rd_T71 q l).f1).length d0], .int .i64 I] rfl zL ?_; refine (laws_szRow.calls _ _ ((rd_T71 q l).f0) _ _ ((rd_T71 q l).f1) I e0 _ (zS M) O.out (zS T) U.out A6.out).mono ?_; rintro e w9 ⟨rfl, hb⟩; refine ⟨_, rfl, ?_⟩; have p0 := z8 hb; revert p0; clear HB; intro HB))
 go_roundg k1
 case measure => have := B0.out; omega
 case rel => exact ⟨(e0), (wrap64 (l + 1)), zR, zR, H', ⟨by have := B0.out; omega⟩, ⟨zB⟩⟩
def laws_szLm.f (k : Nat) (u : Int) (q : List (S71)) (y : Int) : Option (Int) := (laws_szRowS.f k q y).bind fun l => (if l < 0 then (some (-1)) else (some l))
theorem laws_szLm.calls (k) (A) (y) (z) (l : List (S71)) (J) (r) (w) (B : Kd.C k71 w y l.length l) (E : l.length ≤ z) (h : laws_szLm.f k A l J = some r) :
 Calls Try.prog 7 #[.agg #[.int .i64 A, .slice y l.length z], .int .i64 J] w fun e w' => e = .returned (.int .i64 r) ∧ Below w.heap.size w w' := by
 have l0 := Try.underlying24
 have O := zK B
 have T := zK E
 clear B E
 have HB := zK (Below.refl w.heap.size w)
 have H : ((laws_szRowS.f k l J).bind fun u => (if u < 0 then (some (-1)) else (some u))) = some r := h
 clear h
 replace H := z6 H
 obtain ⟨u, U, H⟩ := H
 have A3 := zK U
 clear U
 by_cases I : u < 0
 rw [if_pos I] at H
 have X := z1 I
 clear I
 obtain rfl := z5 H
 rotate_left
 rw [if_neg I] at H
 have X := z2 I
 clear I
 obtain rfl := z5 H
 all_goals go_enter Try.func7, Try.ntmps7
 all_goals go_wp2_with (first | ((with_reducible refine gd 2 rfl ?_); refine zJ 2 #[.int .i64 A, .slice y l.length z] 24 ?_; intro g0 hg w8 hbox hb; have L := z8 hb; have M := zK (hbox); have a0 := z9 hg; have b0 := z9 hg; revert L M a0 b0; clear HB; intro HB q i0 j0; clear hb hbox hg; obtain ⟨c0, d0, e0, f0⟩ := zc2 q) | ((with_reducible refine gc 26 rfl ?_); refine zF 8 Try.func26 #[.slice y l.length z, .int .i64 J] rfl zL ?_; refine (laws_szRowS.calls k _ _ l J u _ (zS O) T.out A3.out).mono ?_; rintro e n0 ⟨rfl, hb⟩; refine ⟨_, rfl, ?_⟩; have L := z7 q hb; have M := z8 hb; revert L M; clear q HB; intro q HB))
 all_goals go_ret
 all_goals exact ⟨zE, zB⟩
def laws_szHouse.f (k : Nat) (q : Int) (u : List (S71)) (y : Int) (z : Int) (A : Int) (B : Int) (E : Int) (I : Int) (J : Int) : Option (Int) := (laws_szLm.f k q u J).bind fun l => (if l < 0 then (some (-1)) else (some l))
theorem laws_szHouse.calls (k) (q) (z) (A) (l : List (S71)) (B) (E) (I) (J) (L) (M) (X) (r) (w) (O : Kd.C k71 w z l.length l) (T : l.length ≤ A) (h : laws_szHouse.f k q l B E I J L M X = some r) :
 Calls Try.prog 12 #[.agg #[.int .i64 q, .slice z l.length A, .int .i64 B, .int .i64 E, .int .i64 I, .int .i64 J, .int .i64 L, .int .i64 M], .int .i64 X] w fun e w' => e = .returned (.int .i64 r) ∧ Below w.heap.size w w' := by
 have J0 := Try.underlying36
 have L0 := Try.underlying24
 have c0 := zK O
 have d0 := zK T
 clear O T
 have HB := zK (Below.refl w.heap.size w)
 have H : ((laws_szLm.f k q l X).bind fun y => (if y < 0 then (some (-1)) else (some y))) = some r := h
 clear h
 replace H := z6 H
 obtain ⟨y, e0, H⟩ := H
 have A3 := zK e0
 clear e0
 by_cases U : y < 0
 rw [if_pos U] at H
 have f0 := z1 U
 clear U
 obtain rfl := z5 H
 rotate_left
 rw [if_neg U] at H
 have f0 := z2 U
 clear U
 obtain rfl := z5 H
 all_goals go_enter Try.func12, Try.ntmps12
 all_goals go_wp2_with (first | ((with_reducible refine gd 2 rfl ?_); refine zJ 2 #[.int .i64 q, .slice z l.length A, .int .i64 B, .int .i64 E, .int .i64 I, .int .i64 J, .int .i64 L, .int .i64 M] 36 ?_; intro F0 hg w8 hbox hb; have a0 := z8 hb; have b0 := zK (hbox); have g0 := z9 hg; have i0 := z9 hg; revert a0 b0 g0 i0; clear HB; intro HB u G0 I0; clear hb hbox hg; obtain ⟨j0, l0, m0, n0, o0, p0, q0, s0, t0, x0, y0, A0, B0, C0, D0, E0⟩ := zc8 u) | ((with_reducible refine gc 7 rfl ?_); refine zF 8 Try.func7 #[.agg #[.int .i64 q, .slice z l.length A], .int .i64 X] rfl zL ?_; refine (laws_szLm.calls k q _ _ l X y _ (zS c0) d0.out A3.out).mono ?_; rintro e N0 ⟨rfl, hb⟩; refine ⟨_, rfl, ?_⟩; have a0 := z7 u hb; have b0 := z8 hb; revert a0 b0; clear u HB; intro u HB))
 all_goals go_ret
 all_goals exact ⟨zE, zB⟩
def spec_l5In.f (l : Int) (q : Int) (u : Int) : Option (Bool) := if l ≥ q then (some (decide (l ≤ u))) else (some false)
theorem spec_l5In.calls (q) (u) (y) (r : Bool) (w) (h : spec_l5In.f q u y = some r) :
 Calls Try.prog 27 #[.int .i64 q, .int .i64 u, .int .i64 y] w fun e w' => e = .returned (.bool r) ∧ Drawn0 w w' := by
 have H : (if q ≥ u then (some (decide (q ≤ y))) else (some false)) = some r := h
 clear h
 by_cases l : q ≥ u
 · rw [if_pos l] at H
   have z := z1 l
   clear l
   obtain rfl := z5 H
   go_enter Try.func27, Try.ntmps27
   go_wp2
   go_ret
   exact ⟨zR, zD⟩
 rw [if_neg l] at H
 have z := z2 l
 clear l
 obtain rfl := z5 H
 go_enter Try.func27, Try.ntmps27
 go_wp2
 go_ret
 exact ⟨zR, zD⟩
def spec_l21Tokens.l0 : Nat → List Int → Int → Int → Option (Bool)
 | 0, _, _, _ => none
 | k + 1, q, y, l => if l < (q.length : Int) then (if 0 ≤ l then ((spec_l5In.f (rd q l) 0 (wrap64 (y - 1))).bind fun u => (if u = true then (spec_l21Tokens.l0 k q y (wrap64 (l + 1))) else (some false))) else (none)) else (some true)
def spec_l21Tokens.f (k : Nat) (l : List Int) (q : Int) : Option (Bool) := spec_l21Tokens.l0 k l q 0
theorem spec_l21Tokens.calls (k) (A0) (c0) (y : List Int) (z) (r : Bool) (w) (M : Kd.C (Kd.int .i64) w A0 y.length y) (O : y.length ≤ c0) (h : spec_l21Tokens.f k y z = some r) :
 Calls Try.prog 28 #[.slice A0 y.length c0, .int .i64 z] w fun e w' => e = .returned (.bool r) ∧ Drawn0 w w' := by
 have T := zK M
 have i0 := zK O
 clear M O
 have H : (spec_l21Tokens.l0 k y z 0) = some r := h
 clear h
 have H' := zK H
 clear H
 go_enter Try.func28, Try.ntmps28
 go_wp2
 go_loopg [5] k (fun kq v5 w' => ∃ (l : Int), v5 = .int .i64 l ∧ Aside0 (spec_l21Tokens.l0 kq y z l = some r) ∧ Aside0 (kq ≤ k) ∧ Drawn0 w w')
 case atStart => exact ⟨(0), zR, H', ⟨Nat.le_refl _⟩, zD⟩
 clear H'
 try clear c2
 try clear p2
 obtain ⟨l, rfl, HA, U, ⟨m1, rfl⟩⟩ := hrel
 rcases gk with _ | k1
 · exact absurd HA.out (by simp [spec_l21Tokens.l0])
 have H := HA.out
 clear HA
 simp only [spec_l21Tokens.l0] at H
 by_cases B : l < (y.length : Int)
 rotate_left
 · rw [if_neg B] at H
   have a0 := z2 B
   clear B
   obtain rfl := z5 H
   go_wp2
   go_ret
   exact ⟨zR, zD⟩
 rw [if_pos B] at H
 have a0 := z1 B
 clear B
 by_cases I : 0 ≤ l
 rotate_left
 · rw [if_neg I] at H
   exact absurd H (by simp)
 rw [if_pos I] at H
 have g0 := z1 I
 clear I
 replace H := z6 H
 obtain ⟨b0, X, H⟩ := H
 have A5 := zK X
 clear X
 by_cases J : b0 = true
 rotate_left
 · replace J := Bool.eq_false_iff.mpr J
   subst J
   rw [if_neg (show ¬ (false = true) by decide)] at H
   obtain rfl := z5 H
   have q : 0 ≤ (l : Int) := z3
   have u : l < (y.length : Int) := z3
   obtain ⟨L, A, E⟩ := Kd.at_int T.out l q u
   cases A
   replace q := eq_true q
   replace u := eq_true u
   go_wp2_with (first | ((with_reducible refine gc 27 rfl ?_); refine zF 18 Try.func27 #[.int .i64 (rd y l), .int .i64 0, .int .i64 (wrap64 (z - 1))] rfl zL ?_; (with_reducible refine (spec_l5In.calls (rd y l) 0 (wrap64 (z - 1)) false _ A5.out).mono ?_); rintro e w' ⟨rfl, ⟨nd, rfl⟩⟩; refine ⟨_, rfl, ?_⟩))
   go_ret
   exact ⟨zR, zD⟩
 subst J
 rw [if_pos rfl] at H
 have H' := zK H
 clear H
 have q : 0 ≤ (l : Int) := z3
 have u : l < (y.length : Int) := z3
 obtain ⟨L, A, E⟩ := Kd.at_int T.out l q u
 cases A
 replace q := eq_true q
 replace u := eq_true u
 go_wp2_with (first | ((with_reducible refine gc 27 rfl ?_); refine zF 18 Try.func27 #[.int .i64 (rd y l), .int .i64 0, .int .i64 (wrap64 (z - 1))] rfl zL ?_; (with_reducible refine (spec_l5In.calls (rd y l) 0 (wrap64 (z - 1)) true _ A5.out).mono ?_); rintro e w' ⟨rfl, ⟨nd, rfl⟩⟩; refine ⟨_, rfl, ?_⟩))
 go_roundg k1
 case measure => have := U.out; omega
 case rel => exact ⟨(wrap64 (l + 1)), zR, H', ⟨by have := U.out; omega⟩, zD⟩
def spec_l21Sum.l0 : Nat → List Int → Int → Int → Option (Int)
 | 0, _, _, _ => none
 | k + 1, q, u, l => if l < (q.length : Int) then (if 0 ≤ l then (spec_l21Sum.l0 k q (wrap64 (u + (rd q l))) (wrap64 (l + 1))) else (none)) else (some u)
def spec_l21Sum.f (k : Nat) (l : List Int) : Option (Int) := spec_l21Sum.l0 k l 0 0
theorem spec_l21Sum.calls (k) (T) (U) (q : List Int) (r) (w) (E : Kd.C (Kd.int .i64) w T q.length q) (I : q.length ≤ U) (h : spec_l21Sum.f k q = some r) :
 Calls Try.prog 49 #[.slice T q.length U] w fun e w' => e = .returned (.int .i64 r) ∧ Drawn0 w w' := by
 have X := zK E
 have d0 := zK I
 clear E I
 have H : (spec_l21Sum.l0 k q 0 0) = some r := h
 clear h
 have H' := zK H
 clear H
 go_enter Try.func49, Try.ntmps49
 go_wp2
 go_loopg [3, 4] k (fun kq v3 v4 w' => ∃ (u : Int) (l : Int), v3 = .int .i64 u ∧ v4 = .int .i64 l ∧ Aside0 (spec_l21Sum.l0 kq q u l = some r) ∧ Aside0 (kq ≤ k) ∧ Drawn0 w w')
 case atStart => exact ⟨(0), (0), zR, zR, H', ⟨Nat.le_refl _⟩, zD⟩
 clear H'
 obtain ⟨u, l, rfl, rfl, HA, J, ⟨m1, rfl⟩⟩ := hrel
 rcases gk with _ | k1
 · exact absurd HA.out (by simp [spec_l21Sum.l0])
 have H := HA.out
 clear HA
 simp only [spec_l21Sum.l0] at H
 by_cases A : l < (q.length : Int)
 rotate_left
 · rw [if_neg A] at H
   have L := z2 A
   clear A
   obtain rfl := z5 H
   go_wp2
   go_ret
   exact ⟨zR, zD⟩
 rw [if_pos A] at H
 have L := z1 A
 clear A
 by_cases B : 0 ≤ l
 rotate_left
 · rw [if_neg B] at H
   exact absurd H (by simp)
 rw [if_pos B] at H
 have b0 := z1 B
 clear B
 have H' := zK H
 clear H
 have y : 0 ≤ (l : Int) := z3
 have z : l < (q.length : Int) := z3
 obtain ⟨a0, M, O⟩ := Kd.at_int X.out l y z
 cases M
 replace y := eq_true y
 replace z := eq_true z
 go_wp2
 go_roundg k1
 case measure => have := J.out; omega
 case rel => exact ⟨(wrap64 (u + (rd q l))), (wrap64 (l + 1)), zR, zR, H', ⟨by have := J.out; omega⟩, zD⟩
def spec_l21Weights.l0 : Nat → List Int → Int → Option (Bool)
 | 0, _, _ => none
 | k + 1, l, q => if q < (l.length : Int) then (if 0 ≤ q then ((spec_l5In.f (rd l q) 0 1000).bind fun u => (if u = true then (spec_l21Weights.l0 k l (wrap64 (q + 1))) else (some false))) else (none)) else ((spec_l21Sum.f k l).bind fun y => (some (decide (y > 0))))
def spec_l21Weights.f (k : Nat) (l : List Int) : Option (Bool) := spec_l21Weights.l0 k l 0
theorem spec_l21Weights.calls (k) (A0) (c0) (q : List Int) (r : Bool) (w) (M : Kd.C (Kd.int .i64) w A0 q.length q) (O : q.length ≤ c0) (h : spec_l21Weights.f k q = some r) :
 Calls Try.prog 29 #[.slice A0 q.length c0] w fun e w' => e = .returned (.bool r) ∧ Drawn0 w w' := by
 have E := zK M
 have g0 := zK O
 clear M O
 have H : (spec_l21Weights.l0 k q 0) = some r := h
 clear h
 have H' := zK H
 clear H
 go_enter Try.func29, Try.ntmps29
 go_wp2
 go_loopg [3] k (fun kq v3 w' => ∃ (l : Int), v3 = .int .i64 l ∧ Aside0 (spec_l21Weights.l0 kq q l = some r) ∧ Aside0 (kq ≤ k) ∧ Drawn0 w w')
 case atStart => exact ⟨(0), zR, H', ⟨Nat.le_refl _⟩, zD⟩
 clear H'
 obtain ⟨l, rfl, HA, T, ⟨m1, rfl⟩⟩ := hrel
 rcases gk with _ | k1
 · exact absurd HA.out (by simp [spec_l21Weights.l0])
 have H := HA.out
 clear HA
 simp only [spec_l21Weights.l0] at H
 by_cases A : l < (q.length : Int)
 rotate_left
 · rw [if_neg A] at H
   have d0 := z2 A
   clear A
   replace H := z6 H
   obtain ⟨e0, U, H⟩ := H
   have A6 := zK U
   clear U
   obtain rfl := z5 H
   go_wp2_with (first | ((with_reducible refine gc 49 rfl ?_); refine zF 17 Try.func49 #[.slice A0 q.length c0] rfl zL ?_; refine (spec_l21Sum.calls k1 _ _ q e0 _ (zC E.out) g0.out A6.out).mono ?_; rintro e w' ⟨rfl, ⟨nd, rfl⟩⟩; refine ⟨_, rfl, ?_⟩))
   go_ret
   exact ⟨zR, zD⟩
 rw [if_pos A] at H
 have d0 := z1 A
 clear A
 by_cases I : 0 ≤ l
 rotate_left
 · rw [if_neg I] at H
   exact absurd H (by simp)
 rw [if_pos I] at H
 have m0 := z1 I
 clear I
 replace H := z6 H
 obtain ⟨f0, X, H⟩ := H
 have A4 := zK X
 clear X
 by_cases J : f0 = true
 rotate_left
 · replace J := Bool.eq_false_iff.mpr J
   subst J
   rw [if_neg (show ¬ (false = true) by decide)] at H
   obtain rfl := z5 H
   have u : 0 ≤ (l : Int) := z3
   have y : l < (q.length : Int) := z3
   obtain ⟨L, z, B⟩ := Kd.at_int E.out l u y
   cases z
   replace u := eq_true u
   replace y := eq_true y
   go_wp2_with (first | ((with_reducible refine gc 27 rfl ?_); refine zF 14 Try.func27 #[.int .i64 (rd q l), .int .i64 0, .int .i64 1000] rfl zL ?_; (with_reducible refine (spec_l5In.calls (rd q l) 0 1000 false _ A4.out).mono ?_); rintro e w' ⟨rfl, ⟨nd, rfl⟩⟩; refine ⟨_, rfl, ?_⟩))
   go_ret
   exact ⟨zR, zD⟩
 subst J
 rw [if_pos rfl] at H
 have H' := zK H
 clear H
 have u : 0 ≤ (l : Int) := z3
 have y : l < (q.length : Int) := z3
 obtain ⟨L, z, B⟩ := Kd.at_int E.out l u y
 cases z
 replace u := eq_true u
 replace y := eq_true y
 go_wp2_with (first | ((with_reducible refine gc 27 rfl ?_); refine zF 14 Try.func27 #[.int .i64 (rd q l), .int .i64 0, .int .i64 1000] rfl zL ?_; (with_reducible refine (spec_l5In.calls (rd q l) 0 1000 true _ A4.out).mono ?_); rintro e w' ⟨rfl, ⟨nd, rfl⟩⟩; refine ⟨_, rfl, ?_⟩))
 go_roundg k1
 case measure => have := T.out; omega
 case rel => exact ⟨(wrap64 (l + 1)), zR, H', ⟨by have := T.out; omega⟩, zD⟩
def spec_l3SameInts.l0 : Nat → List Int → List Int → Int → Option (Bool)
 | 0, _, _, _ => none
 | k + 1, q, u, l => if l < (q.length : Int) then (if 0 ≤ l then (if l < (u.length : Int) then (if (rd q l) = (rd u l) then (spec_l3SameInts.l0 k q u (wrap64 (l + 1))) else (some false)) else (none)) else (none)) else (some true)
def spec_l3SameInts.f (k : Nat) (l : List Int) (q : List Int) : Option (Bool) := if (l.length : Int) = (q.length : Int) then (spec_l3SameInts.l0 k l q 0) else (some false)
theorem spec_l3SameInts.calls (k) (A0) (c0) (q : List Int) (A1) (c1) (u : List Int) (r : Bool) (w) (g0 : Kd.C (Kd.int .i64) w A0 q.length q) (i0 : q.length ≤ c0) (j0 : Kd.C (Kd.int .i64) w A1 u.length u) (m0 : u.length ≤ c1) (h : spec_l3SameInts.f k q u = some r) :
 Calls Try.prog 30 #[.slice A0 q.length c0, .slice A1 u.length c1] w fun e w' => e = .returned (.bool r) ∧ Drawn0 w w' := by
 have n0 := zK g0
 have F0 := zK i0
 clear g0 i0
 have o0 := zK j0
 have G0 := zK m0
 clear j0 m0
 have H : (if (q.length : Int) = (u.length : Int) then (spec_l3SameInts.l0 k q u 0) else (some false)) = some r := h
 clear h
 by_cases E : (q.length : Int) = (u.length : Int)
 rotate_left
 · rw [if_neg E] at H
   have U := beq_eq_false_iff_ne.mpr E
   have X := bne_iff_ne.mpr E
   have a0 : (q.length == u.length) = false := by first | simpa using E | (simp at E ⊢; omega)
   obtain rfl := z5 H
   go_enter Try.func30, Try.ntmps30
   go_wp2
   repeat (go_quiet (fail); try go_wp2)
   go_ret
   exact ⟨zR, zD⟩
 rw [if_pos E] at H
 have U := beq_iff_eq.mpr E
 have X := bne_eq_false_iff_eq.mpr E
 have a0 : (q.length == u.length) = true := by first | simpa using E | (simp at E ⊢; omega)
 clear E
 have H' := zK H
 clear H
 go_enter Try.func30, Try.ntmps30
 go_wp2
 repeat (go_quiet (fail); try go_wp2)
 go_loopg [5] k (fun kq v5 w' => ∃ (l : Int), v5 = .int .i64 l ∧ Aside0 (spec_l3SameInts.l0 kq q u l = some r) ∧ Aside0 (kq ≤ k) ∧ Drawn0 w w')
 case atStart => exact ⟨(0), zR, H', ⟨Nat.le_refl _⟩, zD⟩
 clear H'
 try clear c1
 try clear p2
 try clear E
 try clear U
 try clear X
 try clear a0
 obtain ⟨l, rfl, HA, p0, ⟨m1, rfl⟩⟩ := hrel
 rcases gk with _ | k1
 · exact absurd HA.out (by simp [spec_l3SameInts.l0])
 have H := HA.out
 clear HA
 simp only [spec_l3SameInts.l0] at H
 by_cases M : l < (q.length : Int)
 rotate_left
 · rw [if_neg M] at H
   have s0 := z2 M
   clear M
   obtain rfl := z5 H
   go_wp2
   repeat (go_quiet (fail); try go_wp2)
   go_ret
   exact ⟨zR, zD⟩
 rw [if_pos M] at H
 have s0 := z1 M
 clear M
 by_cases c5 : 0 ≤ l
 rotate_left
 · rw [if_neg c5] at H
   exact absurd H (by simp)
 rw [if_pos c5] at H
 have D0 := z1 c5
 clear c5
 by_cases c6 : l < (u.length : Int)
 rotate_left
 · rw [if_neg c6] at H
   exact absurd H (by simp)
 rw [if_pos c6] at H
 have E0 := z1 c6
 clear c6
 by_cases I : (rd q l) = (rd u l)
 rotate_left
 · rw [if_neg I] at H
   have t0 := beq_eq_false_iff_ne.mpr I
   have x0 := bne_iff_ne.mpr I
   obtain rfl := z5 H
   have y : 0 ≤ (l : Int) := z3
   have z : l < (q.length : Int) := z3
   obtain ⟨e0, J, O⟩ := Kd.at_int n0.out l y z
   cases J
   replace y := eq_true y
   replace z := eq_true z
   have A : 0 ≤ (l : Int) := z3
   have B : l < (u.length : Int) := z3
   obtain ⟨f0, L, T⟩ := Kd.at_int o0.out l A B
   cases L
   replace A := eq_true A
   replace B := eq_true B
   go_wp2
   repeat (go_quiet (fail); try go_wp2)
   go_ret
   exact ⟨zR, zD⟩
 rw [if_pos I] at H
 have t0 := beq_iff_eq.mpr I
 have x0 := bne_eq_false_iff_eq.mpr I
 clear I
 have H' := zK H
 clear H
 have y : 0 ≤ (l : Int) := z3
 have z : l < (q.length : Int) := z3
 obtain ⟨e0, J, O⟩ := Kd.at_int n0.out l y z
 cases J
 replace y := eq_true y
 replace z := eq_true z
 have A : 0 ≤ (l : Int) := z3
 have B : l < (u.length : Int) := z3
 obtain ⟨f0, L, T⟩ := Kd.at_int o0.out l A B
 cases L
 replace A := eq_true A
 replace B := eq_true B
 go_wp2
 repeat (go_quiet (fail); try go_wp2)
 go_roundg k1
 case measure => have := p0.out; omega
 case rel => exact ⟨(wrap64 (l + 1)), zR, H', ⟨by have := p0.out; omega⟩, zD⟩
end Go.Proofs.Ytdlhmhgpafegpaa.PFnExactHouseOk
