-- Printed out of the translation by this session's own turned copy of a printer; Lean checks it.
import Derived.Test.YtdlhmhgpafegpaaPFnExactLmOkx0
import Derived.Test.YtdlhmhgpafegpaaPFnExactLmOkx2
namespace Go.Proofs.Ytdlhmhgpafegpaa.PFnExactLmOk
open Go.RowKit Go.Proofs.YtdlhmhgpafegpaaW.PrintWords Go.Proofs.YtdlhmhgpafegpaaW.PrintLast Go.Proofs.YtdlhmhgpafegpaaW.PrintMore
attribute [local go_sem] max2_int min2_int max_two min_two max_three min_three max_four min_four
set_option linter.unusedVariables false
set_option linter.unusedSimpArgs false
set_option maxHeartbeats 8000000
set_option maxRecDepth 100000
def laws_toLm.f (k : Nat) (a : Int) (l : List (S71)) : Option (Int × (List (S57))) := (laws_toRowS.f k l).bind fun q => (some (a, q))
theorem laws_toLm.calls (k) (x) (D) (E) (q : List (S71)) (r1) (r2 : List (S57)) (w) (a0 : Kd.C k71 w D q.length q) (b0 : q.length ≤ E) (h : laws_toLm.f k x q = some (r1, r2)) :
 Calls Try.prog 9 #[.agg #[.int .i64 x, .slice D q.length E]] w fun e w' => ∃ v1_ : Value, e = .returned (.agg #[.int .i64 r1, v1_]) ∧ Kd.S k57 57 w' w.heap.size (fun _ => True) v1_ r2 ∧ Below w.heap.size w w' := by
 have c1 := Try.underlying24
 have d1 := Try.underlying29
 have f0 := zK a0
 have g0 := zK b0
 clear a0 b0
 have HB := zK (Below.refl w.heap.size w)
 have H : ((laws_toRowS.f k q).bind fun I => (some (x, I))) = some (r1, r2) := h
 clear h
 replace H := z6 H
 obtain ⟨I, l0, H⟩ := H
 have A2 := zK l0
 clear l0
 simp only [Option.some.injEq, Prod.mk.injEq] at H
 obtain ⟨rfl, rfl⟩ := H
 go_enter Try.func9, Try.ntmps9
 go_wp2_with (first | ((with_reducible refine gd 1 rfl ?_); refine zJ 1 #[.int .i64 x, .slice D q.length E] 24 ?_; intro S0 hg w3 hbox hb; have y := z8 hb; have z := zK (hbox); have A := z9 hg; have B := z9 hg; revert y z A B; clear HB; intro HB a T0 U0; clear hb hbox hg) | ((with_reducible refine gd 2 rfl ?_); refine zJ 2 #[.int .i64 0, .slice none 0 0] 29 ?_; intro i0 hg w4 hbox hb; have y := z7 a hb; have z := z8 hb; have A := zK (hbox); have B := z9 hg; have J := z9 hg; have d0 := zHH hg a; have e0 := zGG hg a; revert y z A B J d0 e0; clear a HB; intro a HB l V0 X0 L M; clear hb hbox hg) | ((with_reducible refine gd 3 rfl ?_); refine zJ 3 #[.int .i64 0, .slice none 0 0] 29 ?_; intro j0 hg w5 hbox hb; have y := z7 a hb; have z := z7 l hb; have A := z8 hb; have B := zK (hbox); have J := z9 hg; have d0 := z9 hg; have e0 := zHH hg a; have G0 := zGG hg a; have I0 := zHH hg l; have J0 := zGG hg l; revert y z A B J d0 e0 G0 I0 J0; clear a l HB; intro a l HB u a1 b1 O T U X; clear hb hbox hg; have f1 := L.out; have g1 := M.out; have i1 := O.out; have j1 := T.out; obtain ⟨L0, M0, N0, O0⟩ := zc2 a; have l1 := X.out; have m1 := U.out; obtain ⟨p0, q0, s0, t0⟩ := zc2 u) | ((with_reducible refine gc 31 rfl ?_); refine zF 9 Try.func31 #[.slice D q.length E] rfl zL ?_; refine (laws_toRowS.calls k _ _ q I _ (z4 f0.out zB) g0.out A2.out).mono ?_; rintro e n1 ⟨v153, rfl, R0, hb⟩; refine ⟨_, rfl, ?_⟩; have y := zK (Kd.S_lower R0 (zz zB)); have z := zK (zg (zV a) hb); have A := zK (zg (zV l) hb); have B := zK (zg (g := j0) (o := .cells #[.int .i64 x, .slice none 0 0] 29 (0, 0)) (zW u) hb); have J := z8 hb; revert y z A B J; clear a l u HB; intro c0 a l u HB; obtain ⟨m0, n0, o0⟩ := Kd.S_slice c0.out; subst o0; obtain ⟨x0, y0, A0, B0⟩ := zc2 u; obtain ⟨C0, D0, E0, F0⟩ := zc2 l))
 refine bodyPost_ret (results_cell_row rfl _ _ i0 29 #[.int .i64 x, .slice m0 I.length n0] (0, 0) _ rfl (zW l) Try.underlying29 rfl (by kernel_rfl)) rfl ?_
 exact ⟨_, zE, Kd.S_mono (zlS (Kd.S_types (Kd.S_types c0.out u.out (by decide)) l.out (by decide))) (fun _ hk => trivial), zB⟩
def impl_within.f (a : Int) (l : Int) (q : Int) : Option (Bool) := if a ≥ l then (some (decide (a ≤ q))) else (some false)
theorem impl_within.calls (l) (q) (u) (r : Bool) (w) (h : impl_within.f l q u = some r) :
 Calls Try.prog 32 #[.int .i64 l, .int .i64 q, .int .i64 u] w fun e w' => e = .returned (.bool r) ∧ Drawn0 w w' := by
 have H : (if l ≥ q then (some (decide (l ≤ u))) else (some false)) = some r := h
 clear h
 by_cases a : l ≥ q
 · rw [if_pos a] at H
   have x := z1 a
   clear a
   obtain rfl := z5 H
   go_enter Try.func32, Try.ntmps32
   go_wp2
   go_ret
   exact ⟨zR, zD⟩
 rw [if_neg a] at H
 have x := z2 a
 clear a
 obtain rfl := z5 H
 go_enter Try.func32, Try.ntmps32
 go_wp2
 go_ret
 exact ⟨zR, zD⟩
def impl_Row_51.f (l : List (S57)) : Option ((List (S57))) := (some (([] : List (S57)) : List (S57))).bind fun a => (if a.length + l.length < 2932031007402 then (some (a ++ l)) else (none))
theorem impl_Row_51.calls_some (q : Nat → Prop) (O) (T) (y : List (S57)) (r : List (S57)) (w) (X : Kd.V k57 57 w w.heap.size (fun k_ => q k_) (.slice O y.length T) y) (h : impl_Row_51.f y = some r) (hA0 : O ≠ none) :
 Calls Try.prog 51 #[.slice O y.length T] w fun e w' => ∃ v0_ : Value, e = .returned (v0_) ∧ Kd.N k57 57 w' w.heap.size (fun k_ => (q k_ ∨ w.heap.size ≤ k_)) v0_ r ∧ Below w.heap.size w w' := by
 obtain ⟨a0, rfl⟩ := Option.ne_none_iff_exists'.1 hA0
 clear hA0
 have hq := fun (w : World) (a : Option Addr) (n c n' c' : Nat) => Lib.run_eql_slice_nil w 27 57 a n c n' c' Try.underlying27
 have z := zK (show Kd.V k57 57 w w.heap.size (fun k_ => (q k_ ∨ w.heap.size ≤ k_)) (.slice (some a0) y.length T) y from Kd.V_mono X (fun k_ hk => .inl hk))
 have HB := zK (Below.refl w.heap.size w)
 have H : ((some (([] : List (S57)) : List (S57))).bind fun l => (if l.length + y.length < 2932031007402 then (some (l ++ y)) else (none))) = some r := h
 clear h
 obtain ⟨l, u⟩ : ∃ y_ : List (S57), y_ = (([] : List (S57))) := ⟨_, rfl⟩
 replace H : (if l.length + y.length < 2932031007402 then (some (l ++ y)) else (none)) = some r := by first | (rw [u]; with_reducible exact H) | (have A := (Option.bind_some _ _).symm.trans H; rw [u]; with_reducible exact A) | (have A := (Option.bind_some _ _).symm.trans H; with_reducible exact A) | with_reducible exact H | (rw [u]; exact H) | exact H
 have Ny155 := zK u
 clear u
 by_cases L : l.length + y.length < 2932031007402
 rotate_left
 · rw [if_neg L] at H
   exact absurd H (by simp)
 rw [if_pos L] at H
 have LMc2 := zK L
 clear L
 obtain ⟨U, x⟩ : ∃ y_ : List (S57), y_ = (l ++ y) := ⟨_, rfl⟩
 replace H : (some U) = some r := by first | (rw [x]; with_reducible exact H) | (have A := (Option.bind_some _ _).symm.trans H; rw [x]; with_reducible exact A) | (have A := (Option.bind_some _ _).symm.trans H; with_reducible exact A) | with_reducible exact H | (rw [x]; exact H) | exact H
 have Ny158 := zK x
 clear x
 obtain rfl := z5 H
 go_enter Try.func51, Try.ntmps51
 go_wp2_with (first | ((with_reducible refine gd 5 rfl ?_); refine Kd.N_lit k57 _ 57 ?hg (N' := 5) ?hd (xs := ([] : List (S57))) (inner := []) (ok := (fun k_ => (q k_ ∨ w.heap.size ≤ k_))) (okp := (fun k_ => (q k_ ∨ w.heap.size ≤ k_))) ?hr ?hp (fun _ hk => hk) ((show ∀ k_, w.heap.size ≤ k_ → (fun k_ => (q k_ ∨ w.heap.size ≤ k_)) k_ from fun k_ hk => (.inr (Nat.le_trans (zz zB) hk))) _ (Nat.le_refl _)) (Below.refl _ _) (Nat.le_refl _) (by simp) ?_; (case hd => rfl); (case hg => rfl); (case hr => first | (go_simp; done) | (go_simp; rfl)); (case hp => exact (Reps.none _ _)); intro v156 w3 B hb hg_ hnew_; clear hg_ hnew_; (first | rw [← Ny155.out] at B | (simp only [Int.reduceToNat] at B; rw [← Ny155.out] at B)); have E := zK (Kd.V_elder' (zkV z) (Kd.N_base B) hb); have I := zK (Kd.N_lower B (zz zB)); have J := z8 hb; revert E I J; clear z HB; intro z D HB; clear hb B) | ((with_reducible refine gate_builtin (b := .append) (xs := #[.tmp 5, .tmp 6]) rfl ?_); at_builtin; refine Kd.N_append_rows k57 (w0 := w) w.heap.size rfl (.tmp 5) (.tmp 6) 27 57 (.agg #[(.slice none 0 0), (.slice none 0 0)]) 48 rfl Try.underlying27 info57 rfl (by decide) (by omega) v156 l y _ _ _ (fun k_ => (q k_ ∨ w.heap.size ≤ k_)) (fun k_ => ((fun k_ => (q k_ ∨ w.heap.size ≤ k_))) k_ ∧ some k_ ≠ (v156 : Value).ownBlock) rfl rfl ?aO ?aR (fun _ hk => hk) ?aF ?aB ?aS ?aL ?_; (case aR => exact (by skip; exact Kd.V_F (Kd.V_mono (ok' := (fun k_ => ((fun k_ => (q k_ ∨ w.heap.size ≤ k_))) k_ ∧ some k_ ≠ (v156 : Value).ownBlock)) (z.out) (fun k_ hk => ⟨hk.1, hk.2⟩)))); (case aB => exact zB); (case aF => exact (fun k_ hk => (.inr (Nat.le_trans (zz zB) hk)))); (case aO => exact (zkN D)); (case aS => exact (zz zB)); (case aL => have := LMc2.out; omega); intro v159 w5 ho hb hg hat; rw [← Ny158.out] at ho; have E := zK (Kd.V_afterv (ok := (fun k_ => (q k_ ∨ w.heap.size ≤ k_))) (zkV z) hg hat); have I := zK (hb); have J := zK (ho); revert E I J; clear z HB D; intro z HB M; clear ho hb hg hat))
 go_ret
 exact ⟨_, zE, zkN M, zB⟩
theorem impl_Row_51.calls (q : Nat → Prop) (x) (y) (l : List (S57)) (r : List (S57)) (w) (u : Kd.V k57 57 w w.heap.size (fun k_ => q k_) (.slice x l.length y) l) (h : impl_Row_51.f l = some r) :
 Calls Try.prog 51 #[.slice x l.length y] w fun e w' => ∃ v0_ : Value, e = .returned (v0_) ∧ Kd.N k57 57 w' w.heap.size (fun k_ => (q k_ ∨ w.heap.size ≤ k_)) v0_ r ∧ Below w.heap.size w w' := by
 rcases x with _ | A
 · obtain rfl : l = [] := by
    rcases Nat.eq_zero_or_pos l.length with z | z
    · exact List.eq_nil_of_length_eq_zero z
    · obtain ⟨_, h1, _⟩ := (by first | exact B | exact (Kd.V_reads' u).2.2 : Kd.C k57 w none l.length l).2.2 z
      cases h1
   obtain rfl : r = [] := by simp [impl_Row_51.f] at h; first | exact h.symm | exact h
   have hq := fun (w : World) (a : Option Addr) (n c n' c' : Nat) => Lib.run_eql_slice_nil w 27 57 a n c n' c' Try.underlying27
   go_enter Try.func51, Try.ntmps51
   go_wp2
   go_ret
   exact ⟨_, rfl, (by first | exact Kd.R_nil _ _ _ _ _ | exact Kd.N_nil _ _ _ _ _ | exact Kd.V_nil _ _ _ _ _ | exact Kd.Q_nil _ _ _ _ _ | exact Kd.S_nil _ _ _ _ _), Below.refl _ _⟩
 · exact impl_Row_51.calls_some q (some A) y l r w u h (by simp)
-- NOT PRINTED: function 65 (impl_Row_65)
-- NOT PRINTED: function 75 (impl_Row_75)
-- NOT PRINTED: function 66 (impl_Row_66)
def impl_allWithin.l0 : Nat → Int → Int → List Int → Int → Int → Option (Bool)
 | 0, _, _, _, _, _ => none
 | k + 1, x, y, q, l, a => if a < l then (if 0 ≤ a then (if a < (q.length : Int) then ((impl_within.f (rd q a) x y).bind fun u => (if u = true then (impl_allWithin.l0 k x y q l (wrap64 (a + 1))) else (some false))) else (none)) else (none)) else (some true)
def impl_allWithin.f (k : Nat) (a : List Int) (l : Int) (q : Int) : Option (Bool) := impl_allWithin.l0 k l q a (a.length : Int) 0
theorem impl_allWithin.calls (k) (A0) (c0) (l : List Int) (x) (y) (r : Bool) (w) (L : Kd.C (Kd.int .i64) w A0 l.length l) (M : l.length ≤ c0) (h : impl_allWithin.f k l x y = some r) :
 Calls Try.prog 34 #[.slice A0 l.length c0, .int .i64 x, .int .i64 y] w fun e w' => e = .returned (.bool r) ∧ Drawn0 w w' := by
 have O := zK L
 have i0 := zK M
 clear L M
 have H : (impl_allWithin.l0 k x y l (l.length : Int) 0) = some r := h
 clear h
 have H' := zK H
 clear H
 go_enter Try.func34, Try.ntmps34
 go_wp2
 go_loopg [11] k (fun kq v11 w' => ∃ (a : Int), v11 = .int .i64 a ∧ Aside0 (impl_allWithin.l0 kq x y l (l.length : Int) a = some r) ∧ Aside0 (kq ≤ k) ∧ Drawn0 w w')
 case atStart => exact ⟨(0), zR, H', ⟨Nat.le_refl _⟩, zD⟩
 clear H'
 try clear p2
 try clear c3
 obtain ⟨a, rfl, HA, T, ⟨m1, rfl⟩⟩ := hrel
 rcases gk with _ | k1
 · exact absurd HA.out (by simp [impl_allWithin.l0])
 have H := HA.out
 clear HA
 simp only [impl_allWithin.l0] at H
 by_cases A : a < (l.length : Int)
 rotate_left
 · rw [if_neg A] at H
   have X := z2 A
   clear A
   obtain rfl := z5 H
   go_wp2
   go_ret
   exact ⟨zR, zD⟩
 rw [if_pos A] at H
 have X := z1 A
 clear A
 by_cases D : 0 ≤ a
 rotate_left
 · rw [if_neg D] at H
   exact absurd H (by simp)
 rw [if_pos D] at H
 have f0 := z1 D
 clear D
 by_cases E : a < (l.length : Int)
 rotate_left
 · rw [if_neg E] at H
   exact absurd H (by simp)
 rw [if_pos E] at H
 have g0 := z1 E
 clear E
 replace H := z6 H
 obtain ⟨a0, U, H⟩ := H
 have A7 := zK U
 clear U
 by_cases I : a0 = true
 rotate_left
 · replace I := Bool.eq_false_iff.mpr I
   subst I
   rw [if_neg (show ¬ (false = true) by decide)] at H
   obtain rfl := z5 H
   have q : 0 ≤ (a : Int) := z3
   have u : a < (l.length : Int) := z3
   obtain ⟨J, z, B⟩ := Kd.at_int O.out a q u
   cases z
   replace q := eq_true q
   replace u := eq_true u
   go_wp2_with (first | ((with_reducible refine gc 32 rfl ?_); refine zF 18 Try.func32 #[.int .i64 (rd l a), .int .i64 x, .int .i64 y] rfl zL ?_; (with_reducible refine (impl_within.calls (rd l a) x y false _ A7.out).mono ?_); rintro e w' ⟨rfl, ⟨nd, rfl⟩⟩; refine ⟨_, rfl, ?_⟩))
   go_ret
   exact ⟨zR, zD⟩
 subst I
 rw [if_pos rfl] at H
 have H' := zK H
 clear H
 have q : 0 ≤ (a : Int) := z3
 have u : a < (l.length : Int) := z3
 obtain ⟨J, z, B⟩ := Kd.at_int O.out a q u
 cases z
 replace q := eq_true q
 replace u := eq_true u
 go_wp2_with (first | ((with_reducible refine gc 32 rfl ?_); refine zF 18 Try.func32 #[.int .i64 (rd l a), .int .i64 x, .int .i64 y] rfl zL ?_; (with_reducible refine (impl_within.calls (rd l a) x y true _ A7.out).mono ?_); rintro e w' ⟨rfl, ⟨nd, rfl⟩⟩; refine ⟨_, rfl, ?_⟩))
 go_roundg k1
 case measure => have := T.out; omega
 case rel => exact ⟨(wrap64 (a + 1)), zR, H', ⟨by have := T.out; omega⟩, zD⟩
def impl_all.l0 : Nat → Int → List Int → Int → Int → Option (Bool)
 | 0, _, _, _, _ => none
 | k + 1, q, l, u, a => if a < u then (if 0 ≤ a then (if a < (l.length : Int) then (if q = (rd l a) then (impl_all.l0 k q l u (wrap64 (a + 1))) else (some false)) else (none)) else (none)) else (some true)
def impl_all.f (k : Nat) (a : List Int) (l : Int) : Option (Bool) := impl_all.l0 k l a (a.length : Int) 0
theorem impl_all.calls (k) (A0) (c0) (u : List Int) (B) (r : Bool) (w) (J : Kd.C (Kd.int .i64) w A0 u.length u) (L : u.length ≤ c0) (h : impl_all.f k u B = some r) :
 Calls Try.prog 35 #[.slice A0 u.length c0, .int .i64 B] w fun e w' => e = .returned (.bool r) ∧ Drawn0 w w' := by
 have M := zK J
 have f0 := zK L
 clear J L
 have H : (impl_all.l0 k B u (u.length : Int) 0) = some r := h
 clear h
 have H' := zK H
 clear H
 go_enter Try.func35, Try.ntmps35
 go_wp2
 go_loopg [9] k (fun kq v9 w' => ∃ (a : Int), v9 = .int .i64 a ∧ Aside0 (impl_all.l0 kq B u (u.length : Int) a = some r) ∧ Aside0 (kq ≤ k) ∧ Drawn0 w w')
 case atStart => exact ⟨(0), zR, H', ⟨Nat.le_refl _⟩, zD⟩
 clear H'
 try clear p2
 obtain ⟨a, rfl, HA, O, ⟨m1, rfl⟩⟩ := hrel
 rcases gk with _ | k1
 · exact absurd HA.out (by simp [impl_all.l0])
 have H := HA.out
 clear HA
 simp only [impl_all.l0] at H
 by_cases z : a < (u.length : Int)
 rotate_left
 · rw [if_neg z] at H
   have T := z2 z
   clear z
   obtain rfl := z5 H
   go_wp2
   go_ret
   exact ⟨zR, zD⟩
 rw [if_pos z] at H
 have T := z1 z
 clear z
 by_cases D : 0 ≤ a
 rotate_left
 · rw [if_neg D] at H
   exact absurd H (by simp)
 rw [if_pos D] at H
 have d0 := z1 D
 clear D
 by_cases E : a < (u.length : Int)
 rotate_left
 · rw [if_neg E] at H
   exact absurd H (by simp)
 rw [if_pos E] at H
 have e0 := z1 E
 clear E
 by_cases x : B = (rd u a)
 rotate_left
 · rw [if_neg x] at H
   have U := beq_eq_false_iff_ne.mpr x
   have X := bne_iff_ne.mpr x
   obtain rfl := z5 H
   have l : 0 ≤ (a : Int) := z3
   have q : a < (u.length : Int) := z3
   obtain ⟨I, y, A⟩ := Kd.at_int M.out a l q
   cases y
   replace l := eq_true l
   replace q := eq_true q
   go_wp2
   go_ret
   exact ⟨zR, zD⟩
 rw [if_pos x] at H
 have U := beq_iff_eq.mpr x
 have X := bne_eq_false_iff_eq.mpr x
 clear x
 have H' := zK H
 clear H
 have l : 0 ≤ (a : Int) := z3
 have q : a < (u.length : Int) := z3
 obtain ⟨I, y, A⟩ := Kd.at_int M.out a l q
 cases y
 replace l := eq_true l
 replace q := eq_true q
 go_wp2
 go_roundg k1
 case measure => have := O.out; omega
 case rel => exact ⟨(wrap64 (a + 1)), zR, H', ⟨by have := O.out; omega⟩, zD⟩
def cmp_Or_int.l0 : Nat → Int → List Int → Int → Int → Option (Int)
 | 0, _, _, _, _ => none
 | k + 1, q, l, u, a => if a < u then (if 0 ≤ a then (if a < (l.length : Int) then (if (rd l a) = q then (cmp_Or_int.l0 k q l u (wrap64 (a + 1))) else (some (rd l a))) else (none)) else (none)) else (some q)
def cmp_Or_int.f (k : Nat) (a : List Int) : Option (Int) := cmp_Or_int.l0 k 0 a (a.length : Int) 0
theorem cmp_Or_int.calls (k) (X) (c0) (u : List Int) (r) (w) (I : Kd.C (Kd.int .i64) w X u.length u) (J : u.length ≤ c0) (h : cmp_Or_int.f k u = some r) :
 Calls Try.prog 54 #[.slice X u.length c0] w fun e w' => e = .returned (.int .i64 r) ∧ Drawn0 w w' := by
 have L := zK I
 have e0 := zK J
 clear I J
 have H : (cmp_Or_int.l0 k 0 u (u.length : Int) 0) = some r := h
 clear h
 have H' := zK H
 clear H
 go_enter Try.func54, Try.ntmps54
 go_wp2
 go_loopg [8] k (fun kq v8 w' => ∃ (a : Int), v8 = .int .i64 a ∧ Aside0 (cmp_Or_int.l0 kq 0 u (u.length : Int) a = some r) ∧ Aside0 (kq ≤ k) ∧ Drawn0 w w')
 case atStart => exact ⟨(0), zR, H', ⟨Nat.le_refl _⟩, zD⟩
 clear H'
 obtain ⟨a, rfl, HA, M, ⟨m1, rfl⟩⟩ := hrel
 rcases gk with _ | k1
 · exact absurd HA.out (by simp [cmp_Or_int.l0])
 have H := HA.out
 clear HA
 simp only [cmp_Or_int.l0] at H
 by_cases z : a < (u.length : Int)
 rotate_left
 · rw [if_neg z] at H
   have O := z2 z
   clear z
   obtain rfl := z5 H
   go_wp2
   go_ret
   exact ⟨zR, zD⟩
 rw [if_pos z] at H
 have O := z1 z
 clear z
 by_cases B : 0 ≤ a
 rotate_left
 · rw [if_neg B] at H
   exact absurd H (by simp)
 rw [if_pos B] at H
 have b0 := z1 B
 clear B
 by_cases D : a < (u.length : Int)
 rotate_left
 · rw [if_neg D] at H
   exact absurd H (by simp)
 rw [if_pos D] at H
 have d0 := z1 D
 clear D
 by_cases x : (rd u a) = 0
 rotate_left
 · rw [if_neg x] at H
   have T := beq_eq_false_iff_ne.mpr x
   have U := bne_iff_ne.mpr x
   obtain rfl := z5 H
   have l : 0 ≤ (a : Int) := z3
   have q : a < (u.length : Int) := z3
   obtain ⟨E, y, A⟩ := Kd.at_int L.out a l q
   cases y
   replace l := eq_true l
   replace q := eq_true q
   go_wp2
   go_ret
   exact ⟨zR, zD⟩
 rw [if_pos x] at H
 have T := beq_iff_eq.mpr x
 have U := bne_eq_false_iff_eq.mpr x
 clear x
 have H' := zK H
 clear H
 have l : 0 ≤ (a : Int) := z3
 have q : a < (u.length : Int) := z3
 obtain ⟨E, y, A⟩ := Kd.at_int L.out a l q
 cases y
 replace l := eq_true l
 replace q := eq_true q
 go_wp2
 go_roundg k1
 case measure => have := M.out; omega
 case rel => exact ⟨(wrap64 (a + 1)), zR, H', ⟨by have := M.out; omega⟩, zD⟩
end Go.Proofs.Ytdlhmhgpafegpaa.PFnExactLmOk
