-- Printed out of the translation by this session's own turned copy of a printer; Lean checks it.
import Derived.Test.YtdlhmhgpafegpaaPFnExactLmOkx0
import Derived.Test.YtdlhmhgpafegpaaPFnExactLmOkx3
namespace Go.Proofs.Ytdlhmhgpafegpaa.PFnExactLmOk
open Go.RowKit Go.Proofs.YtdlhmhgpafegpaaW.PrintWords Go.Proofs.YtdlhmhgpafegpaaW.PrintLast Go.Proofs.YtdlhmhgpafegpaaW.PrintMore
attribute [local go_sem] max2_int min2_int max_two min_two max_three min_three max_four min_four
set_option linter.unusedVariables false
set_option linter.unusedSimpArgs false
set_option maxHeartbeats 8000000
set_option maxRecDepth 100000
def cmp_isNaN_int.f (a : Int) : Option (Bool) := some (a != a)
theorem cmp_isNaN_int.calls (a) (r : Bool) (w) (h : cmp_isNaN_int.f a = some r) :
 Calls Try.prog 64 #[.int .i64 a] w fun e w' => e = .returned (.bool r) ∧ Drawn0 w w' := by
 have H : (some (a != a)) = some r := h
 clear h
 obtain rfl := z5 H
 go_enter Try.func64, Try.ntmps64
 go_wp2
 go_ret
 exact ⟨zR, zD⟩
def cmp_Compare_int.f (l : Int) (q : Int) : Option (Int) := (cmp_isNaN_int.f l).bind fun u => ((cmp_isNaN_int.f q).bind fun a => (if u = true then (if a = true then (some 0) else (some (-1))) else (if a = true then (some 1) else (if l < q then (some (-1)) else (if l > q then (some 1) else (some 0))))))
theorem cmp_Compare_int.calls (a) (l) (r) (w) (h : cmp_Compare_int.f a l = some r) :
 Calls Try.prog 55 #[.int .i64 a, .int .i64 l] w fun e w' => e = .returned (.int .i64 r) ∧ Drawn0 w w' := by
 have H : ((cmp_isNaN_int.f a).bind fun u => ((cmp_isNaN_int.f l).bind fun q => (if u = true then (if q = true then (some 0) else (some (-1))) else (if q = true then (some 1) else (if a < l then (some (-1)) else (if a > l then (some 1) else (some 0))))))) = some r := h
 clear h
 replace H := z6 H
 obtain ⟨u, D, H⟩ := H
 have I := zK D
 clear D
 replace H := z6 H
 obtain ⟨q, E, H⟩ := H
 have J := zK E
 clear E
 by_cases z : u = true
 · subst z
   rw [if_pos rfl] at H
   by_cases A : q = true
   · subst A
     rw [if_pos rfl] at H
     obtain rfl := z5 H
     go_enter Try.func55, Try.ntmps55
     go_wp2_with (first | ((with_reducible refine gc 64 rfl ?_); refine zF 8 Try.func64 #[.int .i64 a] rfl zL ?_; (with_reducible refine (cmp_isNaN_int.calls a true _ I.out).mono ?_); rintro e w' ⟨rfl, ⟨nd, rfl⟩⟩; refine ⟨_, rfl, ?_⟩) | ((with_reducible refine gc 64 rfl ?_); refine zF 10 Try.func64 #[.int .i64 l] rfl zL ?_; (with_reducible refine (cmp_isNaN_int.calls l true _ J.out).mono ?_); rintro e w' ⟨rfl, ⟨nd, rfl⟩⟩; refine ⟨_, rfl, ?_⟩))
     go_ret
     exact ⟨zR, zD⟩
   replace A := Bool.eq_false_iff.mpr A
   subst A
   rw [if_neg (show ¬ (false = true) by decide)] at H
   obtain rfl := z5 H
   go_enter Try.func55, Try.ntmps55
   go_wp2_with (first | ((with_reducible refine gc 64 rfl ?_); refine zF 8 Try.func64 #[.int .i64 a] rfl zL ?_; (with_reducible refine (cmp_isNaN_int.calls a true _ I.out).mono ?_); rintro e w' ⟨rfl, ⟨nd, rfl⟩⟩; refine ⟨_, rfl, ?_⟩) | ((with_reducible refine gc 64 rfl ?_); refine zF 10 Try.func64 #[.int .i64 l] rfl zL ?_; (with_reducible refine (cmp_isNaN_int.calls l false _ J.out).mono ?_); rintro e w' ⟨rfl, ⟨nd, rfl⟩⟩; refine ⟨_, rfl, ?_⟩))
   go_ret
   exact ⟨zR, zD⟩
 replace z := Bool.eq_false_iff.mpr z
 subst z
 rw [if_neg (show ¬ (false = true) by decide)] at H
 by_cases B : q = true
 subst B
 rw [if_pos rfl] at H
 obtain rfl := z5 H
 rotate_left
 replace B := Bool.eq_false_iff.mpr B
 subst B
 rw [if_neg (show ¬ (false = true) by decide)] at H
 by_cases x : a < l
 rw [if_pos x] at H
 have L := z1 x
 clear x
 obtain rfl := z5 H
 rotate_left
 rw [if_neg x] at H
 have L := z2 x
 clear x
 by_cases y : a > l
 rw [if_pos y] at H
 have M := z1 y
 clear y
 obtain rfl := z5 H
 rotate_left
 rw [if_neg y] at H
 have M := z2 y
 clear y
 obtain rfl := z5 H
 all_goals go_enter Try.func55, Try.ntmps55
 all_goals go_wp2_with (first | ((with_reducible refine gc 64 rfl ?_); refine zF 8 Try.func64 #[.int .i64 a] rfl zL ?_; (with_reducible refine (cmp_isNaN_int.calls a false _ I.out).mono ?_); rintro e w' ⟨rfl, ⟨nd, rfl⟩⟩; refine ⟨_, rfl, ?_⟩) | ((with_reducible refine gc 64 rfl ?_); refine zF 10 Try.func64 #[.int .i64 l] rfl zL ?_; (with_reducible refine (cmp_isNaN_int.calls l _ _ J.out).mono ?_); rintro e w' ⟨rfl, ⟨nd, rfl⟩⟩; refine ⟨_, rfl, ?_⟩))
 all_goals go_ret
 all_goals exact ⟨zR, zD⟩
def slices_Compare_int_int.l0 : Nat → List Int → List Int → List Int → Int → Int → Option (Int)
 | 0, _, _, _, _, _ => none
 | k + 1, y, l, x, u, a => if a < u then (if 0 ≤ a then (if a < (x.length : Int) then (if a ≥ (l.length : Int) then (some 1) else (if a < (l.length : Int) then ((cmp_Compare_int.f (rd x a) (rd l a)).bind fun q => (if q = 0 then (slices_Compare_int_int.l0 k y l x u (wrap64 (a + 1))) else (some q))) else (none))) else (none)) else (none)) else (if (y.length : Int) < (l.length : Int) then (some (-1)) else (some 0))
def slices_Compare_int_int.f (k : Nat) (a : List Int) (l : List Int) : Option (Int) := slices_Compare_int_int.l0 k a l a (a.length : Int) 0
theorem slices_Compare_int_int.calls (k) (A0) (c0) (l : List Int) (A1) (c1) (x : List Int) (r) (w) (g0 : Kd.C (Kd.int .i64) w A0 l.length l) (i0 : l.length ≤ c0) (j0 : Kd.C (Kd.int .i64) w A1 x.length x) (m0 : x.length ≤ c1) (h : slices_Compare_int_int.f k l x = some r) :
 Calls Try.prog 56 #[.slice A0 l.length c0, .slice A1 x.length c1] w fun e w' => e = .returned (.int .i64 r) ∧ Drawn0 w w' := by
 have U := zK g0
 have J0 := zK i0
 clear g0 i0
 have n0 := zK j0
 have L0 := zK m0
 clear j0 m0
 have H : (slices_Compare_int_int.l0 k l x l (l.length : Int) 0) = some r := h
 clear h
 have H' := zK H
 clear H
 go_enter Try.func56, Try.ntmps56
 go_wp2
 go_loopg [11] k (fun kq v11 w' => ∃ (a : Int), v11 = .int .i64 a ∧ Aside0 (slices_Compare_int_int.l0 kq l x l (l.length : Int) a = some r) ∧ Aside0 (kq ≤ k) ∧ Drawn0 w w')
 case atStart => exact ⟨(0), zR, H', ⟨Nat.le_refl _⟩, zD⟩
 clear H'
 try clear c1
 try clear p2
 obtain ⟨a, rfl, HA, o0, ⟨m1, rfl⟩⟩ := hrel
 rcases gk with _ | k1
 · exact absurd HA.out (by simp [slices_Compare_int_int.l0])
 have H := HA.out
 clear HA
 simp only [slices_Compare_int_int.l0] at H
 by_cases M : a < (l.length : Int)
 rotate_left
 · rw [if_neg M] at H
   have s0 := z2 M
   clear M
   by_cases A : (l.length : Int) < (x.length : Int)
   · rw [if_pos A] at H
     have X := z1 A
     have a0 : decide (l.length < x.length) = true := z1 (Int.ofNat_lt.mp A)
     clear A
     obtain rfl := z5 H
     go_wp2
     go_ret
     exact ⟨zR, zD⟩
   rw [if_neg A] at H
   have X := z2 A
   have a0 : decide (l.length < x.length) = false := z2 (fun h => A (Int.ofNat_lt.mpr h))
   clear A
   obtain rfl := z5 H
   go_wp2
   go_ret
   exact ⟨zR, zD⟩
 rw [if_pos M] at H
 have s0 := z1 M
 clear M
 by_cases c4 : 0 ≤ a
 rotate_left
 · rw [if_neg c4] at H
   exact absurd H (by simp)
 rw [if_pos c4] at H
 have F0 := z1 c4
 clear c4
 by_cases c5 : a < (l.length : Int)
 rotate_left
 · rw [if_neg c5] at H
   exact absurd H (by simp)
 rw [if_pos c5] at H
 have G0 := z1 c5
 clear c5
 by_cases O : a ≥ (x.length : Int)
 · rw [if_pos O] at H
   have t0 := z1 O
   clear O
   obtain rfl := z5 H
   have q : 0 ≤ (a : Int) := z3
   have u : a < (l.length : Int) := z3
   obtain ⟨L, B, D⟩ := Kd.at_int U.out a q u
   cases B
   replace q := eq_true q
   replace u := eq_true u
   go_wp2
   go_ret
   exact ⟨zR, zD⟩
 rw [if_neg O] at H
 have t0 := z2 O
 clear O
 by_cases c7 : a < (x.length : Int)
 rotate_left
 · rw [if_neg c7] at H
   exact absurd H (by simp)
 rw [if_pos c7] at H
 have I0 := z1 c7
 clear c7
 replace H := z6 H
 obtain ⟨E, p0, H⟩ := H
 have A8 := zK p0
 clear p0
 by_cases I : E = 0
 rotate_left
 · rw [if_neg I] at H
   have x0 := beq_eq_false_iff_ne.mpr I
   have y0 := bne_iff_ne.mpr I
   obtain rfl := z5 H
   have q : 0 ≤ (a : Int) := z3
   have u : a < (l.length : Int) := z3
   obtain ⟨L, B, D⟩ := Kd.at_int U.out a q u
   cases B
   replace q := eq_true q
   replace u := eq_true u
   have y : 0 ≤ (a : Int) := z3
   have z : a < (x.length : Int) := z3
   obtain ⟨f0, J, T⟩ := Kd.at_int n0.out a y z
   cases J
   replace y := eq_true y
   replace z := eq_true z
   go_wp2_with (first | ((with_reducible refine gc 55 rfl ?_); refine zF 26 Try.func55 #[.int .i64 (rd l a), .int .i64 (rd x a)] rfl zL ?_; (with_reducible refine (cmp_Compare_int.calls (rd l a) (rd x a) E _ A8.out).mono ?_); rintro e w' ⟨rfl, ⟨nd, rfl⟩⟩; refine ⟨_, rfl, ?_⟩))
   go_ret
   exact ⟨zR, zD⟩
 rw [if_pos I] at H
 have x0 := beq_iff_eq.mpr I
 have y0 := bne_eq_false_iff_eq.mpr I
 clear I
 have H' := zK H
 clear H
 have q : 0 ≤ (a : Int) := z3
 have u : a < (l.length : Int) := z3
 obtain ⟨L, B, D⟩ := Kd.at_int U.out a q u
 cases B
 replace q := eq_true q
 replace u := eq_true u
 have y : 0 ≤ (a : Int) := z3
 have z : a < (x.length : Int) := z3
 obtain ⟨f0, J, T⟩ := Kd.at_int n0.out a y z
 cases J
 replace y := eq_true y
 replace z := eq_true z
 go_wp2_with (first | ((with_reducible refine gc 55 rfl ?_); refine zF 26 Try.func55 #[.int .i64 (rd l a), .int .i64 (rd x a)] rfl zL ?_; (with_reducible refine (cmp_Compare_int.calls (rd l a) (rd x a) E _ A8.out).mono ?_); rintro e w' ⟨rfl, ⟨nd, rfl⟩⟩; refine ⟨_, rfl, ?_⟩))
 go_roundg k1
 case measure => have := o0.out; omega
 case rel => exact ⟨(wrap64 (a + 1)), zR, H', ⟨by have := o0.out; omega⟩, zD⟩
def impl_byKey.f (k : Nat) (u : List Int) (x : List Int) : Option (Int) := (cmp_Compare_int.f (u.length : Int) (x.length : Int)).bind fun a => ((slices_Compare_int_int.f k u x).bind fun l => ((cmp_Or_int.f k (([a, l] : List Int))).bind fun q => (some q)))
theorem impl_byKey.calls (k) (X) (c0) (u : List Int) (A1) (c1) (x : List Int) (r) (w) (E : Kd.C (Kd.int .i64) w X u.length u) (I : u.length ≤ c0) (J : Kd.C (Kd.int .i64) w A1 x.length x) (L : x.length ≤ c1) (h : impl_byKey.f k u x = some r) :
 Calls Try.prog 36 #[.slice X u.length c0, .slice A1 x.length c1] w fun e w' => e = .returned (.int .i64 r) ∧ Below w.heap.size w w' := by
 have e0 := zK E
 have f0 := zK I
 clear E I
 have g0 := zK J
 have i0 := zK L
 clear J L
 have HB := zK (Below.refl w.heap.size w)
 have H : ((cmp_Compare_int.f (u.length : Int) (x.length : Int)).bind fun a => ((slices_Compare_int_int.f k u x).bind fun l => ((cmp_Or_int.f k (([a, l] : List Int))).bind fun y => (some y)))) = some r := h
 clear h
 replace H := z6 H
 obtain ⟨a, O, H⟩ := H
 have A3 := zK O
 clear O
 replace H := z6 H
 obtain ⟨l, T, H⟩ := H
 have A4 := zK T
 clear T
 obtain ⟨B, q⟩ : ∃ y_ : List Int, y_ = (([a, l] : List Int)) := ⟨_, rfl⟩
 replace H : ((cmp_Or_int.f k B).bind fun y => (some y)) = some r := by first | (rw [q]; with_reducible exact H) | (have D := (Option.bind_some _ _).symm.trans H; rw [q]; with_reducible exact D) | (have D := (Option.bind_some _ _).symm.trans H; with_reducible exact D) | with_reducible exact H | (rw [q]; exact H) | exact H
 have Ny174 := zK q
 clear q
 replace H := z6 H
 obtain ⟨y, U, H⟩ := H
 have A5 := zK U
 clear U
 obtain rfl := z5 H
 go_enter Try.func36, Try.ntmps36
 go_wp2_with (first | ((with_reducible refine gc 55 rfl ?_); refine zF 9 Try.func55 #[.int .i64 (u.length : Int), .int .i64 (x.length : Int)] rfl zL ?_; (with_reducible refine (cmp_Compare_int.calls (u.length : Int) (x.length : Int) a _ A3.out).mono ?_); rintro e w' ⟨rfl, ⟨nd, rfl⟩⟩; refine ⟨_, rfl, ?_⟩) | ((with_reducible refine gc 56 rfl ?_); refine zF 12 Try.func56 #[.slice X u.length c0, .slice A1 x.length c1] rfl zL ?_; refine (slices_Compare_int_int.calls k _ _ u _ _ x l _ (zC e0.out) f0.out (zC g0.out) i0.out A4.out).mono ?_; rintro e w' ⟨rfl, ⟨nd, rfl⟩⟩; refine ⟨_, rfl, ?_⟩) | ((with_reducible refine gd 13 rfl ?_); refine Kd.R_lit (Kd.int .i64) _ 3 ?hg (N := 13) ?hd (xs := ([a, l] : List Int)) (inner := [.int .i64 a, .int .i64 l]) (ok := fun _ => True) (okp := fun _ => True) ?hr ?hp (fun _ hk => hk) trivial (Below.refl _ _) (Nat.le_refl _) (by simp) ?_; (case hd => rfl); (case hg => rfl); (case hr => first | (go_simp; done) | (go_simp; rfl)); (case hp => exact (Reps.one (show Kd.M (Kd.int .i64) _ _ _ a [.int .i64 a] from rfl) (Reps.one (show Kd.M (Kd.int .i64) _ _ _ l [.int .i64 l] from rfl) (Reps.none _ _)))); intro v175 w6 A hb hg_ hnew_; clear hg_ hnew_; (first | rw [← Ny174.out] at A | (simp only [Int.reduceToNat] at A; rw [← Ny174.out] at A)); have j0 := zK (Kd.R_lower A (zz zB)); have m0 := z8 hb; revert j0 m0; clear HB; intro z HB; clear hb A; obtain ⟨n0, o0, p0⟩ := Kd.R_slice z.out; subst p0) | ((with_reducible refine gc 54 rfl ?_); refine zF 14 Try.func54 #[.slice n0 B.length o0] rfl zL ?_; refine (cmp_Or_int.calls k _ _ B y _ (zC (Kd.R_reads' z.out).2.2) ((Kd.R_reads' z.out).2.1) A5.out).mono ?_; rintro e w' ⟨rfl, ⟨nd, rfl⟩⟩; refine ⟨_, rfl, ?_⟩))
 go_ret
 exact ⟨zE, zB⟩
end Go.Proofs.Ytdlhmhgpafegpaa.PFnExactLmOk
