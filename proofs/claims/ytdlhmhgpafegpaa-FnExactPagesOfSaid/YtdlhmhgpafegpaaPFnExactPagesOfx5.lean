-- Printed out of the translation by this session's own turned copy of a printer; Lean checks it.
import Derived.Test.YtdlhmhgpafegpaaPFnExactPagesOfx0
import Derived.Test.YtdlhmhgpafegpaaPFnExactPagesOfx4
namespace Go.Proofs.Ytdlhmhgpafegpaa.PFnExactPagesOf
open Go.RowKit Go.Proofs.YtdlhmhgpafegpaaW.PrintWords Go.Proofs.YtdlhmhgpafegpaaW.PrintLast Go.Proofs.YtdlhmhgpafegpaaW.PrintMore
attribute [local go_sem] max2_int min2_int max_two min_two max_three min_three max_four min_four
set_option linter.unusedVariables false
set_option linter.unusedSimpArgs false
set_option maxHeartbeats 8000000
set_option maxRecDepth 100000
def impl_Row_51.f (q : List (S57)) : Option ((List (S57))) := (some (([] : List (S57)) : List (S57))).bind fun l => (if l.length + q.length < 2932031007402 then (some (l ++ q)) else (none))
theorem impl_Row_51.calls_some (q : Nat → Prop) (U) (X) (z : List (S57)) (r : List (S57)) (w) (b0 : Kd.V k57 57 w w.heap.size (fun k_ => q k_) (.slice U z.length X) z) (h : impl_Row_51.f z = some r) (hA0 : U ≠ none) :
 Calls Try.prog 51 #[.slice U z.length X] w fun e w' => ∃ v0_ : Value, e = .returned (v0_) ∧ Kd.N k57 57 w' w.heap.size (fun k_ => (q k_ ∨ w.heap.size ≤ k_)) v0_ r ∧ Below w.heap.size w w' := by
 obtain ⟨d0, rfl⟩ := Option.ne_none_iff_exists'.1 hA0
 clear hA0
 have hq := fun (w : World) (a : Option Addr) (n c n' c' : Nat) => Lib.run_eql_slice_nil w 27 57 a n c n' c' Try.underlying27
 have A := zK (show Kd.V k57 57 w w.heap.size (fun k_ => (q k_ ∨ w.heap.size ≤ k_)) (.slice (some d0) z.length X) z from Kd.V_mono b0 (fun k_ hk => .inl hk))
 have HB := zK (Below.refl w.heap.size w)
 have H : ((some (([] : List (S57)) : List (S57))).bind fun l => (if l.length + z.length < 2932031007402 then (some (l ++ z)) else (none))) = some r := h
 clear h
 obtain ⟨l, u⟩ : ∃ y_ : List (S57), y_ = (([] : List (S57))) := ⟨_, rfl⟩
 replace H : (if l.length + z.length < 2932031007402 then (some (l ++ z)) else (none)) = some r := by first | (rw [u]; with_reducible exact H) | (have B := (Option.bind_some _ _).symm.trans H; rw [u]; with_reducible exact B) | (have B := (Option.bind_some _ _).symm.trans H; with_reducible exact B) | with_reducible exact H | (rw [u]; exact H) | exact H
 have Ny203 := zK u
 clear u
 by_cases O : l.length + z.length < 2932031007402
 rotate_left
 · rw [if_neg O] at H
   exact absurd H (by simp)
 rw [if_pos O] at H
 have LMc2 := zK O
 clear O
 obtain ⟨a0, y⟩ : ∃ y_ : List (S57), y_ = (l ++ z) := ⟨_, rfl⟩
 replace H : (some a0) = some r := by first | (rw [y]; with_reducible exact H) | (have B := (Option.bind_some _ _).symm.trans H; rw [y]; with_reducible exact B) | (have B := (Option.bind_some _ _).symm.trans H; with_reducible exact B) | with_reducible exact H | (rw [y]; exact H) | exact H
 have Ny206 := zK y
 clear y
 obtain rfl := z5 H
 go_enter Try.func51, Try.ntmps51
 go_wp2_with (first | ((with_reducible refine gd 5 rfl ?_); refine Kd.N_lit k57 _ 57 ?hg (N' := 5) ?hd (xs := ([] : List (S57))) (inner := []) (ok := (fun k_ => (q k_ ∨ w.heap.size ≤ k_))) (okp := (fun k_ => (q k_ ∨ w.heap.size ≤ k_))) ?hr ?hp (fun _ hk => hk) ((show ∀ k_, w.heap.size ≤ k_ → (fun k_ => (q k_ ∨ w.heap.size ≤ k_)) k_ from fun k_ hk => (.inr (Nat.le_trans (zz zB) hk))) _ (Nat.le_refl _)) (Below.refl _ _) (Nat.le_refl _) (by simp) ?_; (case hd => rfl); (case hg => rfl); (case hr => first | (go_simp; done) | (go_simp; rfl)); (case hp => exact (Reps.none _ _)); intro v204 w3 E hb hg_ hnew_; clear hg_ hnew_; (first | rw [← Ny203.out] at E | (simp only [Int.reduceToNat] at E; rw [← Ny203.out] at E)); have J := zK (Kd.V_elder' (zkV A) (Kd.N_base E) hb); have L := zK (Kd.N_lower E (zz zB)); have M := z8 hb; revert J L M; clear A HB; intro A I HB; clear hb E) | ((with_reducible refine gate_builtin (b := .append) (xs := #[.tmp 5, .tmp 6]) rfl ?_); at_builtin; refine Kd.N_append_rows k57 (w0 := w) w.heap.size rfl (.tmp 5) (.tmp 6) 27 57 (.agg #[(.slice none 0 0), (.slice none 0 0)]) 48 rfl Try.underlying27 info57 rfl (by decide) (by omega) v204 l z _ _ _ (fun k_ => (q k_ ∨ w.heap.size ≤ k_)) (fun k_ => ((fun k_ => (q k_ ∨ w.heap.size ≤ k_))) k_ ∧ some k_ ≠ (v204 : Value).ownBlock) rfl rfl ?aO ?aR (fun _ hk => hk) ?aF ?aB ?aS ?aL ?_; (case aR => exact (by skip; exact Kd.V_F (Kd.V_mono (ok' := (fun k_ => ((fun k_ => (q k_ ∨ w.heap.size ≤ k_))) k_ ∧ some k_ ≠ (v204 : Value).ownBlock)) (A.out) (fun k_ hk => ⟨hk.1, hk.2⟩)))); (case aB => exact zB); (case aF => exact (fun k_ hk => (.inr (Nat.le_trans (zz zB) hk)))); (case aO => exact (zkN I)); (case aS => exact (zz zB)); (case aL => have := LMc2.out; omega); intro v207 w5 ho hb hg hat; rw [← Ny206.out] at ho; have J := zK (Kd.V_afterv (ok := (fun k_ => (q k_ ∨ w.heap.size ≤ k_))) (zkV A) hg hat); have L := zK (hb); have M := zK (ho); revert J L M; clear A HB I; intro A HB T; clear ho hb hg hat))
 go_ret
 exact ⟨_, zE, zkN T, zB⟩
theorem impl_Row_51.calls (q : Nat → Prop) (y) (z) (l : List (S57)) (r : List (S57)) (w) (u : Kd.V k57 57 w w.heap.size (fun k_ => q k_) (.slice y l.length z) l) (h : impl_Row_51.f l = some r) :
 Calls Try.prog 51 #[.slice y l.length z] w fun e w' => ∃ v0_ : Value, e = .returned (v0_) ∧ Kd.N k57 57 w' w.heap.size (fun k_ => (q k_ ∨ w.heap.size ≤ k_)) v0_ r ∧ Below w.heap.size w w' := by
 rcases y with _ | B
 · obtain rfl : l = [] := by
    rcases Nat.eq_zero_or_pos l.length with A | A
    · exact List.eq_nil_of_length_eq_zero A
    · obtain ⟨_, h1, _⟩ := (by first | exact E | exact (Kd.V_reads' u).2.2 : Kd.C k57 w none l.length l).2.2 A
      cases h1
   obtain rfl : r = [] := by simp [impl_Row_51.f] at h; first | exact h.symm | exact h
   have hq := fun (w : World) (a : Option Addr) (n c n' c' : Nat) => Lib.run_eql_slice_nil w 27 57 a n c n' c' Try.underlying27
   go_enter Try.func51, Try.ntmps51
   go_wp2
   go_ret
   exact ⟨_, rfl, (by first | exact Kd.R_nil _ _ _ _ _ | exact Kd.N_nil _ _ _ _ _ | exact Kd.V_nil _ _ _ _ _ | exact Kd.Q_nil _ _ _ _ _ | exact Kd.S_nil _ _ _ _ _), Below.refl _ _⟩
 · exact impl_Row_51.calls_some q (some B) z l r w u h (by simp)
-- NOT PRINTED: function 65 (impl_Row_65)
-- NOT PRINTED: function 75 (impl_Row_75)
-- NOT PRINTED: function 66 (impl_Row_66)
def impl_allWithin.l0 : Nat → Int → Int → List Int → Int → Int → Option (Bool)
 | 0, _, _, _, _, _ => none
 | k + 1, z, A, u, q, l => if l < q then (if 0 ≤ l then (if l < (u.length : Int) then ((impl_within.f (rd u l) z A).bind fun y => (if y = true then (impl_allWithin.l0 k z A u q (wrap64 (l + 1))) else (some false))) else (none)) else (none)) else (some true)
def impl_allWithin.f (k : Nat) (l : List Int) (q : Int) (u : Int) : Option (Bool) := impl_allWithin.l0 k q u l (l.length : Int) 0
theorem impl_allWithin.calls (k) (A0) (c0) (q : List Int) (z) (A) (r : Bool) (w) (T : Kd.C (Kd.int .i64) w A0 q.length q) (U : q.length ≤ c0) (h : impl_allWithin.f k q z A = some r) :
 Calls Try.prog 34 #[.slice A0 q.length c0, .int .i64 z, .int .i64 A] w fun e w' => e = .returned (.bool r) ∧ Drawn0 w w' := by
 have X := zK T
 have n0 := zK U
 clear T U
 have H : (impl_allWithin.l0 k z A q (q.length : Int) 0) = some r := h
 clear h
 have H' := zK H
 clear H
 go_enter Try.func34, Try.ntmps34
 go_wp2
 go_loopg [11] k (fun kq v11 w' => ∃ (l : Int), v11 = .int .i64 l ∧ Aside0 (impl_allWithin.l0 kq z A q (q.length : Int) l = some r) ∧ Aside0 (kq ≤ k) ∧ Drawn0 w w')
 case atStart => exact ⟨(0), zR, H', ⟨Nat.le_refl _⟩, zD⟩
 clear H'
 try clear p2
 try clear c3
 obtain ⟨l, rfl, HA, a0, ⟨m1, rfl⟩⟩ := hrel
 rcases gk with _ | k1
 · exact absurd HA.out (by simp [impl_allWithin.l0])
 have H := HA.out
 clear HA
 simp only [impl_allWithin.l0] at H
 by_cases E : l < (q.length : Int)
 rotate_left
 · rw [if_neg E] at H
   have d0 := z2 E
   clear E
   obtain rfl := z5 H
   go_wp2
   go_ret
   exact ⟨zR, zD⟩
 rw [if_pos E] at H
 have d0 := z1 E
 clear E
 by_cases J : 0 ≤ l
 rotate_left
 · rw [if_neg J] at H
   exact absurd H (by simp)
 rw [if_pos J] at H
 have j0 := z1 J
 clear J
 by_cases L : l < (q.length : Int)
 rotate_left
 · rw [if_neg L] at H
   exact absurd H (by simp)
 rw [if_pos L] at H
 have m0 := z1 L
 clear L
 replace H := z6 H
 obtain ⟨e0, b0, H⟩ := H
 have A7 := zK b0
 clear b0
 by_cases M : e0 = true
 rotate_left
 · replace M := Bool.eq_false_iff.mpr M
   subst M
   rw [if_neg (show ¬ (false = true) by decide)] at H
   obtain rfl := z5 H
   have u : 0 ≤ (l : Int) := z3
   have y : l < (q.length : Int) := z3
   obtain ⟨O, B, I⟩ := Kd.at_int X.out l u y
   cases B
   replace u := eq_true u
   replace y := eq_true y
   go_wp2_with (first | ((with_reducible refine gc 32 rfl ?_); refine zF 18 Try.func32 #[.int .i64 (rd q l), .int .i64 z, .int .i64 A] rfl zL ?_; (with_reducible refine (impl_within.calls (rd q l) z A false _ A7.out).mono ?_); rintro e w' ⟨rfl, ⟨nd, rfl⟩⟩; refine ⟨_, rfl, ?_⟩))
   go_ret
   exact ⟨zR, zD⟩
 subst M
 rw [if_pos rfl] at H
 have H' := zK H
 clear H
 have u : 0 ≤ (l : Int) := z3
 have y : l < (q.length : Int) := z3
 obtain ⟨O, B, I⟩ := Kd.at_int X.out l u y
 cases B
 replace u := eq_true u
 replace y := eq_true y
 go_wp2_with (first | ((with_reducible refine gc 32 rfl ?_); refine zF 18 Try.func32 #[.int .i64 (rd q l), .int .i64 z, .int .i64 A] rfl zL ?_; (with_reducible refine (impl_within.calls (rd q l) z A true _ A7.out).mono ?_); rintro e w' ⟨rfl, ⟨nd, rfl⟩⟩; refine ⟨_, rfl, ?_⟩))
 go_roundg k1
 case measure => have := a0.out; omega
 case rel => exact ⟨(wrap64 (l + 1)), zR, H', ⟨by have := a0.out; omega⟩, zD⟩
def impl_all.l0 : Nat → Int → List Int → Int → Int → Option (Bool)
 | 0, _, _, _, _ => none
 | k + 1, u, q, y, l => if l < y then (if 0 ≤ l then (if l < (q.length : Int) then (if u = (rd q l) then (impl_all.l0 k u q y (wrap64 (l + 1))) else (some false)) else (none)) else (none)) else (some true)
def impl_all.f (k : Nat) (l : List Int) (q : Int) : Option (Bool) := impl_all.l0 k q l (l.length : Int) 0
theorem impl_all.calls (k) (A0) (c0) (y : List Int) (I) (r : Bool) (w) (O : Kd.C (Kd.int .i64) w A0 y.length y) (T : y.length ≤ c0) (h : impl_all.f k y I = some r) :
 Calls Try.prog 35 #[.slice A0 y.length c0, .int .i64 I] w fun e w' => e = .returned (.bool r) ∧ Drawn0 w w' := by
 have U := zK O
 have j0 := zK T
 clear O T
 have H : (impl_all.l0 k I y (y.length : Int) 0) = some r := h
 clear h
 have H' := zK H
 clear H
 go_enter Try.func35, Try.ntmps35
 go_wp2
 go_loopg [9] k (fun kq v9 w' => ∃ (l : Int), v9 = .int .i64 l ∧ Aside0 (impl_all.l0 kq I y (y.length : Int) l = some r) ∧ Aside0 (kq ≤ k) ∧ Drawn0 w w')
 case atStart => exact ⟨(0), zR, H', ⟨Nat.le_refl _⟩, zD⟩
 clear H'
 try clear p2
 obtain ⟨l, rfl, HA, X, ⟨m1, rfl⟩⟩ := hrel
 rcases gk with _ | k1
 · exact absurd HA.out (by simp [impl_all.l0])
 have H := HA.out
 clear HA
 simp only [impl_all.l0] at H
 by_cases B : l < (y.length : Int)
 rotate_left
 · rw [if_neg B] at H
   have a0 := z2 B
   clear B
   obtain rfl := z5 H
   go_wp2
   go_ret
   exact ⟨zR, zD⟩
 rw [if_pos B] at H
 have a0 := z1 B
 clear B
 by_cases J : 0 ≤ l
 rotate_left
 · rw [if_neg J] at H
   exact absurd H (by simp)
 rw [if_pos J] at H
 have g0 := z1 J
 clear J
 by_cases L : l < (y.length : Int)
 rotate_left
 · rw [if_neg L] at H
   exact absurd H (by simp)
 rw [if_pos L] at H
 have i0 := z1 L
 clear L
 by_cases z : I = (rd y l)
 rotate_left
 · rw [if_neg z] at H
   have b0 := beq_eq_false_iff_ne.mpr z
   have d0 := bne_iff_ne.mpr z
   obtain rfl := z5 H
   have q : 0 ≤ (l : Int) := z3
   have u : l < (y.length : Int) := z3
   obtain ⟨M, A, E⟩ := Kd.at_int U.out l q u
   cases A
   replace q := eq_true q
   replace u := eq_true u
   go_wp2
   go_ret
   exact ⟨zR, zD⟩
 rw [if_pos z] at H
 have b0 := beq_iff_eq.mpr z
 have d0 := bne_eq_false_iff_eq.mpr z
 clear z
 have H' := zK H
 clear H
 have q : 0 ≤ (l : Int) := z3
 have u : l < (y.length : Int) := z3
 obtain ⟨M, A, E⟩ := Kd.at_int U.out l q u
 cases A
 replace q := eq_true q
 replace u := eq_true u
 go_wp2
 go_roundg k1
 case measure => have := X.out; omega
 case rel => exact ⟨(wrap64 (l + 1)), zR, H', ⟨by have := X.out; omega⟩, zD⟩
def cmp_Or_int.l0 : Nat → Int → List Int → Int → Int → Option (Int)
 | 0, _, _, _, _ => none
 | k + 1, u, q, y, l => if l < y then (if 0 ≤ l then (if l < (q.length : Int) then (if (rd q l) = u then (cmp_Or_int.l0 k u q y (wrap64 (l + 1))) else (some (rd q l))) else (none)) else (none)) else (some u)
def cmp_Or_int.f (k : Nat) (l : List Int) : Option (Int) := cmp_Or_int.l0 k 0 l (l.length : Int) 0
theorem cmp_Or_int.calls (k) (A0) (c0) (y : List Int) (r) (w) (M : Kd.C (Kd.int .i64) w A0 y.length y) (O : y.length ≤ c0) (h : cmp_Or_int.f k y = some r) :
 Calls Try.prog 54 #[.slice A0 y.length c0] w fun e w' => e = .returned (.int .i64 r) ∧ Drawn0 w w' := by
 have T := zK M
 have i0 := zK O
 clear M O
 have H : (cmp_Or_int.l0 k 0 y (y.length : Int) 0) = some r := h
 clear h
 have H' := zK H
 clear H
 go_enter Try.func54, Try.ntmps54
 go_wp2
 go_loopg [8] k (fun kq v8 w' => ∃ (l : Int), v8 = .int .i64 l ∧ Aside0 (cmp_Or_int.l0 kq 0 y (y.length : Int) l = some r) ∧ Aside0 (kq ≤ k) ∧ Drawn0 w w')
 case atStart => exact ⟨(0), zR, H', ⟨Nat.le_refl _⟩, zD⟩
 clear H'
 obtain ⟨l, rfl, HA, U, ⟨m1, rfl⟩⟩ := hrel
 rcases gk with _ | k1
 · exact absurd HA.out (by simp [cmp_Or_int.l0])
 have H := HA.out
 clear HA
 simp only [cmp_Or_int.l0] at H
 by_cases B : l < (y.length : Int)
 rotate_left
 · rw [if_neg B] at H
   have X := z2 B
   clear B
   obtain rfl := z5 H
   go_wp2
   go_ret
   exact ⟨zR, zD⟩
 rw [if_pos B] at H
 have X := z1 B
 clear B
 by_cases I : 0 ≤ l
 rotate_left
 · rw [if_neg I] at H
   exact absurd H (by simp)
 rw [if_pos I] at H
 have f0 := z1 I
 clear I
 by_cases J : l < (y.length : Int)
 rotate_left
 · rw [if_neg J] at H
   exact absurd H (by simp)
 rw [if_pos J] at H
 have g0 := z1 J
 clear J
 by_cases z : (rd y l) = 0
 rotate_left
 · rw [if_neg z] at H
   have a0 := beq_eq_false_iff_ne.mpr z
   have b0 := bne_iff_ne.mpr z
   obtain rfl := z5 H
   have q : 0 ≤ (l : Int) := z3
   have u : l < (y.length : Int) := z3
   obtain ⟨L, A, E⟩ := Kd.at_int T.out l q u
   cases A
   replace q := eq_true q
   replace u := eq_true u
   go_wp2
   go_ret
   exact ⟨zR, zD⟩
 rw [if_pos z] at H
 have a0 := beq_iff_eq.mpr z
 have b0 := bne_eq_false_iff_eq.mpr z
 clear z
 have H' := zK H
 clear H
 have q : 0 ≤ (l : Int) := z3
 have u : l < (y.length : Int) := z3
 obtain ⟨L, A, E⟩ := Kd.at_int T.out l q u
 cases A
 replace q := eq_true q
 replace u := eq_true u
 go_wp2
 go_roundg k1
 case measure => have := U.out; omega
 case rel => exact ⟨(wrap64 (l + 1)), zR, H', ⟨by have := U.out; omega⟩, zD⟩
def cmp_isNaN_int.f (l : Int) : Option (Bool) := some (l != l)
theorem cmp_isNaN_int.calls (l) (r : Bool) (w) (h : cmp_isNaN_int.f l = some r) :
 Calls Try.prog 64 #[.int .i64 l] w fun e w' => e = .returned (.bool r) ∧ Drawn0 w w' := by
 have H : (some (l != l)) = some r := h
 clear h
 obtain rfl := z5 H
 go_enter Try.func64, Try.ntmps64
 go_wp2
 go_ret
 exact ⟨zR, zD⟩
end Go.Proofs.Ytdlhmhgpafegpaa.PFnExactPagesOf
