-- Printed out of the translation by this session's own turned copy of a printer; Lean checks it.
import Derived.Test.YtiabkadcgmamaaaPFnExactFillSlotsx0
import Derived.Test.YtiabkadcgmamaaaPFnExactFillSlotsx3
namespace Go.Proofs.Ytiabkadcgmamaaa.PFnExactFillSlots
open Go.RowKit Go.Proofs.YtiabkadcgmamaaaW.PrintWords Go.Proofs.YtiabkadcgmamaaaW.PrintLast Go.Proofs.YtiabkadcgmamaaaW.PrintMore
attribute [local go_sem] max2_int min2_int max_two min_two max_three min_three max_four min_four
set_option linter.unusedVariables false
set_option linter.unusedSimpArgs false
set_option maxHeartbeats 8000000
set_option maxRecDepth 100000
def cmp_Compare_int.f (l : Int) (o : Int) : Option (Int) := (cmp_isNaN_int.f l).bind fun q => ((cmp_isNaN_int.f o).bind fun a => (if q = true then (if a = true then (some 0) else (some (-1))) else (if a = true then (some 1) else (if l < o then (some (-1)) else (if l > o then (some 1) else (some 0))))))
theorem cmp_Compare_int.calls (a) (l) (r) (w) (h : cmp_Compare_int.f a l = some r) :
 Calls Try.prog 20 #[.int .i64 a, .int .i64 l] w fun e w' => e = .returned (.int .i64 r) ∧ Drawn0 w w' := by
 have H : ((cmp_isNaN_int.f a).bind fun q => ((cmp_isNaN_int.f l).bind fun o => (if q = true then (if o = true then (some 0) else (some (-1))) else (if o = true then (some 1) else (if a < l then (some (-1)) else (if a > l then (some 1) else (some 0))))))) = some r := h
 clear h
 replace H := z6 H
 obtain ⟨q, B, H⟩ := H
 have E := zK B
 clear B
 replace H := z6 H
 obtain ⟨o, D, H⟩ := H
 have I := zK D
 clear D
 by_cases y : q = true
 · subst y
   rw [if_pos rfl] at H
   by_cases z : o = true
   · subst z
     rw [if_pos rfl] at H
     obtain rfl := z5 H
     go_enter Try.func20, Try.ntmps20
     go_wp2_with (first | ((with_reducible refine gc 31 rfl ?_); refine zF 8 Try.func31 #[.int .i64 a] rfl zL ?_; (with_reducible refine (cmp_isNaN_int.calls a true _ E.out).mono ?_); rintro e w' ⟨rfl, ⟨nd, rfl⟩⟩; refine ⟨_, rfl, ?_⟩) | ((with_reducible refine gc 31 rfl ?_); refine zF 10 Try.func31 #[.int .i64 l] rfl zL ?_; (with_reducible refine (cmp_isNaN_int.calls l true _ I.out).mono ?_); rintro e w' ⟨rfl, ⟨nd, rfl⟩⟩; refine ⟨_, rfl, ?_⟩))
     go_ret
     exact ⟨zR, zD⟩
   replace z := Bool.eq_false_iff.mpr z
   subst z
   rw [if_neg (show ¬ (false = true) by decide)] at H
   obtain rfl := z5 H
   go_enter Try.func20, Try.ntmps20
   go_wp2_with (first | ((with_reducible refine gc 31 rfl ?_); refine zF 8 Try.func31 #[.int .i64 a] rfl zL ?_; (with_reducible refine (cmp_isNaN_int.calls a true _ E.out).mono ?_); rintro e w' ⟨rfl, ⟨nd, rfl⟩⟩; refine ⟨_, rfl, ?_⟩) | ((with_reducible refine gc 31 rfl ?_); refine zF 10 Try.func31 #[.int .i64 l] rfl zL ?_; (with_reducible refine (cmp_isNaN_int.calls l false _ I.out).mono ?_); rintro e w' ⟨rfl, ⟨nd, rfl⟩⟩; refine ⟨_, rfl, ?_⟩))
   go_ret
   exact ⟨zR, zD⟩
 replace y := Bool.eq_false_iff.mpr y
 subst y
 rw [if_neg (show ¬ (false = true) by decide)] at H
 by_cases A : o = true
 subst A
 rw [if_pos rfl] at H
 obtain rfl := z5 H
 rotate_left
 replace A := Bool.eq_false_iff.mpr A
 subst A
 rw [if_neg (show ¬ (false = true) by decide)] at H
 by_cases u : a < l
 rw [if_pos u] at H
 have J := z1 u
 clear u
 obtain rfl := z5 H
 rotate_left
 rw [if_neg u] at H
 have J := z2 u
 clear u
 by_cases x : a > l
 rw [if_pos x] at H
 have L := z1 x
 clear x
 obtain rfl := z5 H
 rotate_left
 rw [if_neg x] at H
 have L := z2 x
 clear x
 obtain rfl := z5 H
 all_goals go_enter Try.func20, Try.ntmps20
 all_goals go_wp2_with (first | ((with_reducible refine gc 31 rfl ?_); refine zF 8 Try.func31 #[.int .i64 a] rfl zL ?_; (with_reducible refine (cmp_isNaN_int.calls a false _ E.out).mono ?_); rintro e w' ⟨rfl, ⟨nd, rfl⟩⟩; refine ⟨_, rfl, ?_⟩) | ((with_reducible refine gc 31 rfl ?_); refine zF 10 Try.func31 #[.int .i64 l] rfl zL ?_; (with_reducible refine (cmp_isNaN_int.calls l _ _ I.out).mono ?_); rintro e w' ⟨rfl, ⟨nd, rfl⟩⟩; refine ⟨_, rfl, ?_⟩))
 all_goals go_ret
 all_goals exact ⟨zR, zD⟩
def impl_bySlot.f (k : Nat) (a : Int) (l : Int) (z : Int) (A : Bool) (o : Int) (q : Int) (B : Int) (D : Bool) : Option (Int) := (cmp_Compare_int.f a o).bind fun u => ((cmp_Compare_int.f l q).bind fun x => ((cmp_Or_int.f k (([u, x] : List Int))).bind fun y => (some y)))
def impl_bySlot.T1 : Bool × List (List Nat × List Nat) := (true, [([], []), ([0], [0]), ([], []), ([2], [2]), ([1, 3], [1, 3]), ([], []), ([5], [5]), ([], []), ([7], [7]), ([6, 8, 4], [6, 8]), ([4, 9], [4, 9]), ([10, 9], [10]), ([11, 11, 0, 1, 2, 3, 4, 5, 6, 7, 8, 9, 10, 11], [11])])
def impl_bySlot.B1 : List Nat := [0, 1, 0, 4, 15, 0, 32, 0, 128, 511, 1023, 2047, 4095]
theorem impl_bySlot.tab1 : rtab .any (opsOf Try.f13 1) = impl_bySlot.T1 := by kernel_rfl
theorem impl_bySlot.bits1 : waitsOk impl_bySlot.T1.2 impl_bySlot.B1 = true := by kernel_rfl
theorem impl_bySlot.calls (k) (u) (x) (T) (U : Bool) (y) (z) (X) (a0 : Bool) (r) (w) (h : impl_bySlot.f k u x T U y z X a0 = some r) :
 Calls Try.prog 13 #[.agg #[.int .i64 u, .int .i64 x, .int .i64 T, .bool U], .agg #[.int .i64 y, .int .i64 z, .int .i64 X, .bool a0]] w fun e w' => e = .returned (.int .i64 r) ∧ Below w.heap.size w w' := by
 have M0 := Try.underlying29
 have HB := zK (Below.refl w.heap.size w)
 have H : ((cmp_Compare_int.f u y).bind fun o => ((cmp_Compare_int.f x z).bind fun q => ((cmp_Or_int.f k (([o, q] : List Int))).bind fun E => (some E)))) = some r := h
 clear h
 replace H := z6 H
 obtain ⟨o, g0, H⟩ := H
 have A3 := zK g0
 clear g0
 replace H := z6 H
 obtain ⟨q, i0, H⟩ := H
 have A4 := zK i0
 clear i0
 obtain ⟨d0, A⟩ : ∃ y_ : List Int, y_ = (([o, q] : List Int)) := ⟨_, rfl⟩
 replace H : ((cmp_Or_int.f k d0).bind fun E => (some E)) = some r := by first | (rw [A]; with_reducible exact H) | (have e0 := (Option.bind_some _ _).symm.trans H; rw [A]; with_reducible exact e0) | (have e0 := (Option.bind_some _ _).symm.trans H; with_reducible exact e0) | with_reducible exact H | (rw [A]; exact H) | exact H
 have Ny208 := zK A
 clear A
 replace H := z6 H
 obtain ⟨E, j0, H⟩ := H
 have A5 := zK j0
 clear j0
 obtain rfl := z5 H
 go_enter Try.func13, Try.ntmps13
 try go_wp2_with (first | ((with_reducible refine gd 2 rfl ?_); refine zJ 2 #[.int .i64 u, .int .i64 x, .int .i64 T, .bool U] 29 ?_; intro B hg w6 hbox hb; have I := z8 hb; have J := zK (hbox); have L := z9 hg; have c0 := z9 hg; revert I J L c0; clear HB; intro HB a G0 I0; clear hb hbox hg) | ((with_reducible refine gd 3 rfl ?_); refine zJ 3 #[.int .i64 y, .int .i64 z, .int .i64 X, .bool a0] 29 ?_; intro D hg w7 hbox hb; have I := z7 a hb; have J := z8 hb; have L := zK (hbox); have c0 := z9 hg; have D0 := z9 hg; have E0 := zHH hg a; have F0 := zGG hg a; revert I J L c0 D0 E0 F0; clear a HB; intro a HB l J0 L0 l0 m0; clear hb hbox hg))
 have I := zK (zd a.out)
 have J := zK (zd l.out)
 have L := zK (ze HB.out)
 revert I J L
 clear a l HB
 intro a l HB
 refine start_ (n := 13) (S := fun w' => w'.cell? ⟨B, 0, none⟩ = some (.int .i64 u) ∧ w'.cell? ⟨B, 1, none⟩ = some (.int .i64 x) ∧ w'.cell? ⟨B, 2, none⟩ = some (.int .i64 T) ∧ w'.cell? ⟨B, 3, none⟩ = some (.bool U) ∧ w'.cell? ⟨D, 0, none⟩ = some (.int .i64 y) ∧ w'.cell? ⟨D, 1, none⟩ = some (.int .i64 z) ∧ w'.cell? ⟨D, 2, none⟩ = some (.int .i64 X) ∧ w'.cell? ⟨D, 3, none⟩ = some (.bool a0)) (ds := []) (bl 13 0) (by kernel_rfl) rfl (by kernel_rfl) ⟨zy a 0, zy a 1, zy a 2, zy a 3, zy l 0, zy l 1, zy l 2, zy l 3⟩ (fun hHeld => ?_); refine with_tabW impl_bySlot.tab1 impl_bySlot.bits1 (fun HT_ HW_ => ?_)
 generalize w7.drew = w8 at a l HB hHeld ⊢
 refine zP 0 5 (bl 13 1) HT_ ?_
 refine zP 2 7 (bl 13 5) HT_ ?_
 refine zP 5 10 (bl 13 37) HT_ ?_
 refine zP 7 12 (bl 13 165) HT_ ?_
 refine zT 1 6 (bl 13 167) rfl rfl HT_ HW_ hHeld (by rintro w' ⟨s0, s1, s2, s3, s4, s5, s6, s7⟩; go_simp; with_reducible rfl) ?_
 refine zT 3 8 (bl 13 175) rfl rfl HT_ HW_ hHeld (by rintro w' ⟨s0, s1, s2, s3, s4, s5, s6, s7⟩; go_simp; with_reducible rfl) ?_
 refine zT 6 11 (bl 13 239) rfl rfl HT_ HW_ hHeld (by rintro w' ⟨s0, s1, s2, s3, s4, s5, s6, s7⟩; go_simp; with_reducible rfl) ?_
 refine zT 8 13 (bl 13 495) rfl rfl HT_ HW_ hHeld (by rintro w' ⟨s0, s1, s2, s3, s4, s5, s6, s7⟩; go_simp; with_reducible rfl) ?_
 refine one_ (i := 4) (N := some 9) (bl 13 511) rfl rfl (one_of HT_.out (by kernel_rfl)) (by decide) (fun K hK => ?_)
 refine goes_ Try.func20 (by kernel_rfl) rfl #[.int .i64 u, .int .i64 y] (by rfl) rfl rfl zL ?_
 with_reducible refine (cmp_Compare_int.calls u y o _ A3.out).mono ?_
 rintro e w' ⟨rfl, ⟨nd, rfl⟩⟩
 refine ⟨_, rfl, ?_⟩
 refine hK.out _ _ ⟨zy a 0, zy a 1, zy a 2, zy a 3, zy l 0, zy l 1, zy l 2, zy l 3⟩ (fun hHeld => ?_)
 clear hK K
 refine zU 9 ?_
 refine one_ (i := 9) (N := some 14) (bl 13 1023) rfl rfl (one_of HT_.out (by kernel_rfl)) (by decide) (fun K hK => ?_)
 refine goes_ Try.func20 (by kernel_rfl) rfl #[.int .i64 x, .int .i64 z] (by rfl) rfl rfl zL ?_
 with_reducible refine (cmp_Compare_int.calls x z q _ A4.out).mono ?_
 rintro e w' ⟨rfl, ⟨nd, rfl⟩⟩
 refine ⟨_, rfl, ?_⟩
 refine hK.out _ _ ⟨zy a 0, zy a 1, zy a 2, zy a 3, zy l 0, zy l 1, zy l 2, zy l 3⟩ (fun hHeld => ?_)
 clear hK K
 refine zU 14 ?_
 refine one_ (i := 10) (N := some 15) (bl 13 2047) rfl rfl (one_of HT_.out (by kernel_rfl)) (by decide) (fun K hK => ?_)
 refine Kd.R_lit_step (Kd.int .i64) _ 3 ?hg (N := 15) ?hd (xs := ([o, q] : List Int)) (inner := [.int .i64 o, .int .i64 q]) (ok := fun _ => True) (okp := fun _ => True) ?hr ?hp (fun _ hk => hk) trivial (Below.refl _ _) (Nat.le_refl _) (by simp) ?_; (case hd => rfl); (case hg => rfl); (case hr => first | (go_simp; done) | (go_simp; rfl)); (case hp => exact (Reps.one (show Kd.M (Kd.int .i64) _ _ _ o [.int .i64 o] from rfl) (Reps.one (show Kd.M (Kd.int .i64) _ _ _ q [.int .i64 q] from rfl) (Reps.none _ _))))
 intro v209 w9 O hb hg_ hnew_
 clear hg_ hnew_
 (first | rw [← Ny208.out] at O | (simp only [Int.reduceToNat] at O; rw [← Ny208.out] at O))
 have I := zK (Kd.R_lower O (zz zB))
 have J := z7 a hb
 have L := z7 l hb
 have c0 := z8 hb
 revert I J L c0
 clear a l HB
 intro b0 a l HB
 clear hb O
 obtain ⟨B0, C0, f0⟩ := Kd.R_slice b0.out
 (first | subst f0 | (injection f0 with f1_ f2_ f3_; have f4_ := f1_.symm; have f5_ := f3_.symm; clear f1_ f2_ f3_; subst f4_; subst f5_))
 refine hK.out _ _ ⟨zy a 0, zy a 1, zy a 2, zy a 3, zy l 0, zy l 1, zy l 2, zy l 3⟩ (fun hHeld => ?_)
 clear hK K
 refine zU 15 ?_
 refine one_ (i := 11) (N := some 16) (bl 13 4095) rfl rfl (one_of HT_.out (by kernel_rfl)) (by decide) (fun K hK => ?_)
 refine goes_ Try.func19 (by kernel_rfl) rfl #[.slice B0 d0.length C0] (by rfl) rfl rfl zL ?_
 refine (cmp_Or_int.calls k _ _ d0 E _ (zC (Kd.R_reads' b0.out).2.2) ((Kd.R_reads' b0.out).2.1) A5.out).mono ?_
 rintro e w' ⟨rfl, ⟨nd, rfl⟩⟩
 refine ⟨_, rfl, ?_⟩
 refine hK.out _ _ ⟨zy a 0, zy a 1, zy a 2, zy a 3, zy l 0, zy l 1, zy l 2, zy l 3⟩ (fun hHeld => ?_)
 clear hK K
 refine zU 16 ?_
 refine zP 12 4 (bl 13 8191) HT_ ?_
 refine done_ (done_of HT_.out (by kernel_rfl)) ?_
 try go_wp2
 go_ret
 exact ⟨zE, zB⟩
end Go.Proofs.Ytiabkadcgmamaaa.PFnExactFillSlots
