-- Printed out of the translation by this session's own turned copy of a printer; Lean checks it.
import Derived.Test.YtiabkadcgmamaaaPFnExactFillSlotsx0
import Derived.Test.YtiabkadcgmamaaaPFnExactFillSlotsx1
import Derived.Test.YtiabkadcgmamaaaPFnExactFillSlotsx2
namespace Go.Proofs.Ytiabkadcgmamaaa.PFnExactFillSlots
open Go.RowKit Go.Proofs.YtiabkadcgmamaaaW.PrintWords Go.Proofs.YtiabkadcgmamaaaW.PrintLast Go.Proofs.YtiabkadcgmamaaaW.PrintMore
attribute [local go_sem] max2_int min2_int max_two min_two max_three min_three max_four min_four
set_option linter.unusedVariables false
set_option linter.unusedSimpArgs false
set_option maxHeartbeats 8000000
set_option maxRecDepth 100000
mutual
def spec_FillSlots.l0 : Nat → Int → Int → List (S29) → Int → Option ((List (S29)))
 | 0, _, _, _, _ => none
 | k + 1, l, u, o, q => if q < l then (spec_FillSlots.l1 k l u o q 0) else ((spec_l19Sort.f k o).bind fun a => (some a))
def spec_FillSlots.l1 : Nat → Int → Int → List (S29) → Int → Int → Option ((List (S29)))
 | 0, _, _, _, _, _ => none
 | k + 1, q, u, x, a, l => if l < u then ((some (([(⟨wrap64 (a + l), a, l, false⟩ : S29), (⟨wrap64 ((wrap64 ((wrap64 ((wrap64 ((wrap64 ((wrap64 (q + u)) - 1)) + q)) - 1)) - a)) + l), a, l, true⟩ : S29)] : List (S29)) : List (S29))).bind fun o => (if x.length + o.length < 4398046511104 then (spec_FillSlots.l1 k q u (x ++ o) a (wrap64 (l + 1))) else (none))) else (spec_FillSlots.l0 k q u x (wrap64 (a + 1)))
end
def spec_FillSlots.f (k : Nat) (q : Int) (u : Int) : Option ((List (S29))) := (some (([] : List (S29)) : List (S29))).bind fun a => ((spec_l19Size.f q).bind fun l => (if l = true then ((spec_l19Size.f u).bind fun o => (if o = true then (spec_FillSlots.l0 k q u a 0) else (some a))) else (some a)))
theorem spec_FillSlots.calls (k) (q) (x) (r : List (S29)) (w) (h : spec_FillSlots.f k q x = some r) :
 Calls Try.prog 4 #[.int .i64 q, .int .i64 x] w fun e w' => ∃ v0_ : Value, e = .returned (v0_) ∧ Kd.R k29 29 w' w.heap.size (fun _ => True) v0_ r ∧ Below w.heap.size w w' := by
 have N0 := Try.underlying29
 have HB := zK (Below.refl w.heap.size w)
 have H : ((some (([] : List (S29)) : List (S29))).bind fun y => ((spec_l19Size.f q).bind fun O => (if O = true then ((spec_l19Size.f x).bind fun T => (if T = true then (spec_FillSlots.l0 k q x y 0) else (some y))) else (some y)))) = some r := h
 clear h
 obtain ⟨y, B⟩ : ∃ y_ : List (S29), y_ = (([] : List (S29))) := ⟨_, rfl⟩
 replace H : ((spec_l19Size.f q).bind fun O => (if O = true then ((spec_l19Size.f x).bind fun T => (if T = true then (spec_FillSlots.l0 k q x y 0) else (some y))) else (some y))) = some r := by first | (rw [B]; with_reducible exact H) | (have z := (Option.bind_some _ _).symm.trans H; rw [B]; with_reducible exact z) | (have z := (Option.bind_some _ _).symm.trans H; with_reducible exact z) | with_reducible exact H | (rw [B]; exact H) | exact H
 have Ny183 := zK B
 clear B
 replace H := z6 H
 obtain ⟨O, y0, H⟩ := H
 have A3 := zK y0
 clear y0
 rcases zN (O = true) with c4 | c4
 replace c4 := Bool.eq_false_iff.mpr c4
 subst c4
 rw [if_neg (show ¬ (false = true) by decide)] at H
 obtain rfl := z5 H
 rotate_left
 subst c4
 rw [if_pos rfl] at H
 replace H := z6 H
 obtain ⟨T, A0, H⟩ := H
 have A5 := zK A0
 clear A0
 rcases zN (T = true) with c6 | c6
 replace c6 := Bool.eq_false_iff.mpr c6
 subst c6
 rw [if_neg (show ¬ (false = true) by decide)] at H
 obtain rfl := z5 H
 rotate_left
 subst c6
 rw [if_pos rfl] at H
 have H' := zK H
 clear H
 all_goals go_enter Try.func4, Try.ntmps4
 all_goals go_wp2_with (first | ((with_reducible refine gd 8 rfl ?_); refine Kd.R_lit k29 _ 29 ?hg (N := 8) ?hd (xs := ([] : List (S29))) (inner := []) (ok := fun _ => True) (okp := fun _ => True) ?hr ?hp (fun _ hk => hk) trivial (Below.refl _ _) (Nat.le_refl _) (by simp) ?_; (case hd => rfl); (case hg => rfl); (case hr => first | (go_simp; done) | (go_simp; rfl)); (case hp => exact (Reps.none _ _)); intro v184 w7 c0 hb hg_ hnew_; clear hg_ hnew_; (first | rw [← Ny183.out] at c0 | (simp only [Int.reduceToNat] at c0; rw [← Ny183.out] at c0)); have U := zK (Kd.R_lower c0 (zz zB)); have X := z8 hb; revert U X; clear HB; intro i0 HB; clear hb c0) | ((with_reducible refine gc 9 rfl ?_); refine zF 10 Try.func9 #[.int .i64 q] rfl zL ?_; (with_reducible refine (spec_l19Size.calls q _ _ A3.out).mono ?_); rintro e w' ⟨rfl, ⟨nd, rfl⟩⟩; refine ⟨_, rfl, ?_⟩) | (go_at_call 9; (with_reducible refine (spec_l19Size.calls x _ _ A5.out).mono ?_); rintro e w' ⟨rfl, ⟨nd, rfl⟩⟩))
 · go_loopg [5, 6] k (fun kq v5 v6 w' => ∃ (I : List (S29)) (a : Int), v6 = .int .i64 a ∧ Aside0 (spec_FillSlots.l0 kq q x I a = some r) ∧ Aside0 (kq ≤ k) ∧ Aside0 (Kd.R k29 29 w' w.heap.size (fun _ => True) v5 I) ∧ Aside0 (Below w.heap.size w w'))
   case atStart => exact ⟨(y), (0), zR, H', ⟨Nat.le_refl _⟩, ⟨zkR i0⟩, ⟨zB⟩⟩
   clear H'
   try clear p2
   try clear c4
   try clear c6
   obtain ⟨I, a, rfl, HA, j0, o, HB⟩ := hrel
   rcases gk with _ | k1
   · exact absurd HA.out (by simp [spec_FillSlots.l0])
   have H := HA.out
   clear HA
   simp only [spec_FillSlots.l0] at H
   by_cases c9 : a < q
   rotate_left
   · rw [if_neg c9] at H
     have o0 := z2 c9
     clear c9
     replace H := z6 H
     obtain ⟨C0, p0, H⟩ := H
     have M0 := zK p0
     clear p0
     obtain rfl := z5 H
     obtain ⟨D0, E0, F0⟩ := Kd.R_slice o.out
     subst F0
     go_wp2_with (first | ((with_reducible refine gc 10 rfl ?_); refine zF 52 Try.func10 #[.slice D0 I.length E0] rfl zL ?_; refine (spec_l19Sort.calls k1 _ _ I C0 _ (zC (Kd.R_reads' o.out).2.2) ((Kd.R_reads' o.out).2.1) M0.out).mono ?_; rintro e S0 ⟨v195, rfl, B0, hb⟩; refine ⟨_, rfl, ?_⟩; have U := zK (Kd.R_elder' (zkR o) (Kd.R_base B0) hb); have X := zK (Kd.R_lower (Kd.R_new' B0 (Kd.R_lt (zkR o))) (zz zB)); have d0 := z8 hb; revert U X d0; clear o HB; intro o s0 HB))
     go_ret
     exact ⟨_, zE, Kd.R_mono (zlR s0.out) (fun _ hk => trivial), zB⟩
   rw [if_pos c9] at H
   have o0 := z1 c9
   clear c9
   have H' := zK H
   clear H
   go_wp2
   go_loopg [5, 7] k1 (fun kq v5 v7 w' => ∃ (u : List (S29)) (l : Int), v7 = .int .i64 l ∧ Aside0 (spec_FillSlots.l1 kq q x u a l = some r) ∧ Aside0 (kq ≤ k1) ∧ Aside0 (Kd.R k29 29 w' w.heap.size (fun _ => True) v5 u) ∧ Aside0 (Below w.heap.size w w'))
   case atStart => exact ⟨(I), (0), zR, H', ⟨Nat.le_refl _⟩, ⟨zkR o⟩, ⟨zB⟩⟩
   clear H'
   try clear p2
   try clear c4
   try clear c6
   try clear c9
   try clear o0
   try clear p2
   obtain ⟨u, l, rfl, HA, m0, o, HB⟩ := hrel
   rcases gk with _ | k2
   · exact absurd HA.out (by simp [spec_FillSlots.l1])
   have H := HA.out
   clear HA
   simp only [spec_FillSlots.l1] at H
   by_cases b0 : l < x
   rotate_left
   · rw [if_neg b0] at H
     have t0 := z2 b0
     clear b0
     have H' := zK H
     clear H
     go_wp2
     go_roundg k2
     case measure => have := j0.out; have := m0.out; omega
     case rel => exact ⟨(u), (wrap64 (a + 1)), zR, H', ⟨by have := j0.out; have := m0.out; omega⟩, ⟨zkR o⟩, ⟨zB⟩⟩
   rw [if_pos b0] at H
   have t0 := z1 b0
   clear b0
   obtain ⟨J, D⟩ : ∃ y_ : List (S29), y_ = (([(⟨wrap64 (a + l), a, l, false⟩ : S29), (⟨wrap64 ((wrap64 ((wrap64 ((wrap64 ((wrap64 ((wrap64 (q + x)) - 1)) + q)) - 1)) - a)) + l), a, l, true⟩ : S29)] : List (S29))) := ⟨_, rfl⟩
   replace H : (if u.length + J.length < 4398046511104 then (spec_FillSlots.l1 k2 q x (u ++ J) a (wrap64 (l + 1))) else (none)) = some r := by first | (rw [D]; with_reducible exact H) | (have z := (Option.bind_some _ _).symm.trans H; rw [D]; with_reducible exact z) | (have z := (Option.bind_some _ _).symm.trans H; with_reducible exact z) | with_reducible exact H | (rw [D]; exact H) | exact H
   have Ny188 := zK D
   clear D
   by_cases n0 : u.length + J.length < 4398046511104
   rotate_left
   · rw [if_neg n0] at H
     exact absurd H (by simp)
   rw [if_pos n0] at H
   have LMc11 := zK n0
   clear n0
   obtain ⟨q0, E⟩ : ∃ y_ : List (S29), y_ = (u ++ J) := ⟨_, rfl⟩
   replace H : (spec_FillSlots.l1 k2 q x q0 a (wrap64 (l + 1))) = some r := by first | (rw [E]; with_reducible exact H) | (have z := (Option.bind_some _ _).symm.trans H; rw [E]; with_reducible exact z) | (have z := (Option.bind_some _ _).symm.trans H; with_reducible exact z) | with_reducible exact H | (rw [E]; exact H) | exact H
   have Ny191 := zK E
   clear E
   have H' := zK H
   clear H
   go_wp2_with (first | ((with_reducible refine gd 49 rfl ?_); refine Kd.R_lit k29 _ 29 ?hg (N := 49) ?hd (xs := ([(⟨wrap64 (a + l), a, l, false⟩ : S29), (⟨wrap64 ((wrap64 ((wrap64 ((wrap64 ((wrap64 ((wrap64 (q + x)) - 1)) + q)) - 1)) - a)) + l), a, l, true⟩ : S29)] : List (S29))) (inner := [.int .i64 (wrap64 (a + l)), .int .i64 a, .int .i64 l, .bool false, .int .i64 (wrap64 ((wrap64 ((wrap64 ((wrap64 ((wrap64 ((wrap64 (q + x)) - 1)) + q)) - 1)) - a)) + l)), .int .i64 a, .int .i64 l, .bool true]) (ok := fun _ => True) (okp := fun _ => True) ?hr ?hp (fun _ hk => hk) trivial (Below.refl _ _) (Nat.le_refl _) (by simp) ?_; (case hd => rfl); (case hg => rfl); (case hr => first | (go_simp; done) | (go_simp; rfl)); (case hp => exact (Reps.c4 (show Kd.M k29 _ _ _ (⟨wrap64 (a + l), a, l, false⟩ : S29) [.int .i64 (wrap64 (a + l)), .int .i64 a, .int .i64 l, .bool false] from (k29_mkM _ _ _ (⟨wrap64 (a + l), a, l, false⟩ : S29) )) (Reps.c4 (show Kd.M k29 _ _ _ (⟨wrap64 ((wrap64 ((wrap64 ((wrap64 ((wrap64 ((wrap64 (q + x)) - 1)) + q)) - 1)) - a)) + l), a, l, true⟩ : S29) [.int .i64 (wrap64 ((wrap64 ((wrap64 ((wrap64 ((wrap64 ((wrap64 (q + x)) - 1)) + q)) - 1)) - a)) + l)), .int .i64 a, .int .i64 l, .bool true] from (k29_mkM _ _ _ (⟨wrap64 ((wrap64 ((wrap64 ((wrap64 ((wrap64 ((wrap64 (q + x)) - 1)) + q)) - 1)) - a)) + l), a, l, true⟩ : S29) )) (Reps.none _ _)))); intro v189 T0 L hb hg_ hnew_; clear hg_ hnew_; (first | rw [← Ny188.out] at L | (simp only [Int.reduceToNat] at L; rw [← Ny188.out] at L)); have U := zK (Kd.R_elder' (zkR o) (Kd.R_base L) hb); have X := zK (Kd.R_lower (Kd.R_new' L (Kd.R_lt (zkR o))) (zz zB)); have d0 := z8 hb; revert U X d0; clear o HB; intro o A HB; clear hb L; obtain ⟨G0, I0, J0⟩ := Kd.R_slice A.out; subst J0) | ((with_reducible refine gate_builtin (b := .append) (xs := #[.tmp 28, .tmp 49]) rfl ?_); at_builtin; refine Kd.R_append_rows k29 (w0 := w) w.heap.size rfl (.tmp 28) (.tmp 49) 22 29 (.agg #[(.int .i64 0), (.int .i64 0), (.int .i64 0), (.bool false)]) 32 rfl Try.underlying22 info29 rfl (by decide) (by omega) u5 u J _ _ _ (fun k_ => some k_ ≠ (.slice G0 J.length I0 : Value).ownBlock) (fun _ => False) rfl rfl ?aO ?aR (fun _ _ h => h) (fun _ h => h.elim) ?aF ?aB ?aS ?aL ?_; (case aR => exact zC (Kd.R_reads' A.out).2.2); (case aB => exact zB); (case aF => exact (fun k_ hk => Kd.fresh' (Kd.R_lt (zkR A)) k_ hk)); (case aO => exact (Kd.R_mono (zlR o.out) (fun _ hk => hk.2))); (case aS => exact (zz zB)); (case aL => have := LMc11.out; omega); intro v192 U0 ho hb hg hat; rw [← Ny191.out] at ho; have U := zK (Kd.R_after (ok := (fun _ => True)) (zkR A) hg hat); have X := zK (hb); have d0 := zK (ho); revert U X d0; clear A HB o; intro A HB x0; clear ho hb hg hat))
   go_roundg k2
   case measure => have := j0.out; have := m0.out; omega
   case rel => exact ⟨(q0), (wrap64 (l + 1)), zR, H', ⟨by have := j0.out; have := m0.out; omega⟩, ⟨Kd.R_mono (zlR x0.out) (fun _ hk => trivial)⟩, ⟨zB⟩⟩
 all_goals go_ret
 all_goals exact ⟨_, zE, zkR i0, zB⟩
def impl_within.f (a : Int) (l : Int) (o : Int) : Option (Bool) := if a ≥ l then (some (decide (a ≤ o))) else (some false)
theorem impl_within.calls (l) (o) (q) (r : Bool) (w) (h : impl_within.f l o q = some r) :
 Calls Try.prog 16 #[.int .i64 l, .int .i64 o, .int .i64 q] w fun e w' => e = .returned (.bool r) ∧ Drawn0 w w' := by
 have H : (if l ≥ o then (some (decide (l ≤ q))) else (some false)) = some r := h
 clear h
 by_cases a : l ≥ o
 · rw [if_pos a] at H
   have u := z1 a
   clear a
   obtain rfl := z5 H
   go_enter Try.func16, Try.ntmps16
   go_wp2
   go_ret
   exact ⟨zR, zD⟩
 rw [if_neg a] at H
 have u := z2 a
 clear a
 obtain rfl := z5 H
 go_enter Try.func16, Try.ntmps16
 go_wp2
 go_ret
 exact ⟨zR, zD⟩
def impl_stagesOk.f (o : Int) (q : Int) : Option (Bool) := (impl_within.f o 1 32).bind fun a => (if a = true then ((impl_within.f q 1 32).bind fun l => (some l)) else (some false))
theorem impl_stagesOk.calls (a) (q) (r : Bool) (w) (h : impl_stagesOk.f a q = some r) :
 Calls Try.prog 11 #[.int .i64 a, .int .i64 q] w fun e w' => e = .returned (.bool r) ∧ Drawn0 w w' := by
 have H : ((impl_within.f a 1 32).bind fun l => (if l = true then ((impl_within.f q 1 32).bind fun o => (some o)) else (some false))) = some r := h
 clear h
 replace H := z6 H
 obtain ⟨l, x, H⟩ := H
 have z := zK x
 clear x
 by_cases u : l = true
 rotate_left
 · replace u := Bool.eq_false_iff.mpr u
   subst u
   rw [if_neg (show ¬ (false = true) by decide)] at H
   obtain rfl := z5 H
   go_enter Try.func11, Try.ntmps11
   go_wp2_with (first | ((with_reducible refine gc 16 rfl ?_); refine zF 6 Try.func16 #[.int .i64 a, .int .i64 1, .int .i64 32] rfl zL ?_; (with_reducible refine (impl_within.calls a 1 32 false _ z.out).mono ?_); rintro e w' ⟨rfl, ⟨nd, rfl⟩⟩; refine ⟨_, rfl, ?_⟩))
   go_ret
   exact ⟨zR, zD⟩
 subst u
 rw [if_pos rfl] at H
 replace H := z6 H
 obtain ⟨o, y, H⟩ := H
 have A := zK y
 clear y
 obtain rfl := z5 H
 go_enter Try.func11, Try.ntmps11
 go_wp2_with (first | ((with_reducible refine gc 16 rfl ?_); refine zF 6 Try.func16 #[.int .i64 a, .int .i64 1, .int .i64 32] rfl zL ?_; (with_reducible refine (impl_within.calls a 1 32 true _ z.out).mono ?_); rintro e w' ⟨rfl, ⟨nd, rfl⟩⟩; refine ⟨_, rfl, ?_⟩) | (go_at_call 16; (with_reducible refine (impl_within.calls q 1 32 o _ A.out).mono ?_); rintro e w' ⟨rfl, ⟨nd, rfl⟩⟩))
 go_ret
 exact ⟨zR, zD⟩
-- NOT PRINTED: function 21 (impl_Slot_21)
-- NOT PRINTED: function 32 (impl_Slot_32)
-- NOT PRINTED: function 22 (impl_Slot_22)
def bits_Len32.f (a : Int) : Option (Int) := if a ≥ 65536 then (if (a / 65536) ≥ 256 then (if 0 ≤ (((a / 65536) / 256) % 256) then (if (((a / 65536) / 256) % 256) < 256 then (some (wrap64 ((16 + 8) + (wrap64 (bt (⟨#[0, 1, 2, 2, 3, 3, 3, 3, 4, 4, 4, 4, 4, 4, 4, 4, 5, 5, 5, 5, 5, 5, 5, 5, 5, 5, 5, 5, 5, 5, 5, 5, 6, 6, 6, 6, 6, 6, 6, 6, 6, 6, 6, 6, 6, 6, 6, 6, 6, 6, 6, 6, 6, 6, 6, 6, 6, 6, 6, 6, 6, 6, 6, 6, 7, 7, 7, 7, 7, 7, 7, 7, 7, 7, 7, 7, 7, 7, 7, 7, 7, 7, 7, 7, 7, 7, 7, 7, 7, 7, 7, 7, 7, 7, 7, 7, 7, 7, 7, 7, 7, 7, 7, 7, 7, 7, 7, 7, 7, 7, 7, 7, 7, 7, 7, 7, 7, 7, 7, 7, 7, 7, 7, 7, 7, 7, 7, 7, 8, 8, 8, 8, 8, 8, 8, 8, 8, 8, 8, 8, 8, 8, 8, 8, 8, 8, 8, 8, 8, 8, 8, 8, 8, 8, 8, 8, 8, 8, 8, 8, 8, 8, 8, 8, 8, 8, 8, 8, 8, 8, 8, 8, 8, 8, 8, 8, 8, 8, 8, 8, 8, 8, 8, 8, 8, 8, 8, 8, 8, 8, 8, 8, 8, 8, 8, 8, 8, 8, 8, 8, 8, 8, 8, 8, 8, 8, 8, 8, 8, 8, 8, 8, 8, 8, 8, 8, 8, 8, 8, 8, 8, 8, 8, 8, 8, 8, 8, 8, 8, 8, 8, 8, 8, 8, 8, 8, 8, 8, 8, 8, 8, 8, 8, 8, 8, 8, 8, 8, 8, 8, 8, 8, 8, 8, 8, 8]⟩ : ByteArray) (((a / 65536) / 256) % 256)))))) else (none)) else (none)) else (if 0 ≤ ((a / 65536) % 256) then (if ((a / 65536) % 256) < 256 then (some (wrap64 (16 + (wrap64 (bt (⟨#[0, 1, 2, 2, 3, 3, 3, 3, 4, 4, 4, 4, 4, 4, 4, 4, 5, 5, 5, 5, 5, 5, 5, 5, 5, 5, 5, 5, 5, 5, 5, 5, 6, 6, 6, 6, 6, 6, 6, 6, 6, 6, 6, 6, 6, 6, 6, 6, 6, 6, 6, 6, 6, 6, 6, 6, 6, 6, 6, 6, 6, 6, 6, 6, 7, 7, 7, 7, 7, 7, 7, 7, 7, 7, 7, 7, 7, 7, 7, 7, 7, 7, 7, 7, 7, 7, 7, 7, 7, 7, 7, 7, 7, 7, 7, 7, 7, 7, 7, 7, 7, 7, 7, 7, 7, 7, 7, 7, 7, 7, 7, 7, 7, 7, 7, 7, 7, 7, 7, 7, 7, 7, 7, 7, 7, 7, 7, 7, 8, 8, 8, 8, 8, 8, 8, 8, 8, 8, 8, 8, 8, 8, 8, 8, 8, 8, 8, 8, 8, 8, 8, 8, 8, 8, 8, 8, 8, 8, 8, 8, 8, 8, 8, 8, 8, 8, 8, 8, 8, 8, 8, 8, 8, 8, 8, 8, 8, 8, 8, 8, 8, 8, 8, 8, 8, 8, 8, 8, 8, 8, 8, 8, 8, 8, 8, 8, 8, 8, 8, 8, 8, 8, 8, 8, 8, 8, 8, 8, 8, 8, 8, 8, 8, 8, 8, 8, 8, 8, 8, 8, 8, 8, 8, 8, 8, 8, 8, 8, 8, 8, 8, 8, 8, 8, 8, 8, 8, 8, 8, 8, 8, 8, 8, 8, 8, 8, 8, 8, 8, 8, 8, 8, 8, 8, 8, 8]⟩ : ByteArray) ((a / 65536) % 256)))))) else (none)) else (none))) else (if a ≥ 256 then (if 0 ≤ ((a / 256) % 256) then (if ((a / 256) % 256) < 256 then (some (wrap64 ((0 + 8) + (wrap64 (bt (⟨#[0, 1, 2, 2, 3, 3, 3, 3, 4, 4, 4, 4, 4, 4, 4, 4, 5, 5, 5, 5, 5, 5, 5, 5, 5, 5, 5, 5, 5, 5, 5, 5, 6, 6, 6, 6, 6, 6, 6, 6, 6, 6, 6, 6, 6, 6, 6, 6, 6, 6, 6, 6, 6, 6, 6, 6, 6, 6, 6, 6, 6, 6, 6, 6, 7, 7, 7, 7, 7, 7, 7, 7, 7, 7, 7, 7, 7, 7, 7, 7, 7, 7, 7, 7, 7, 7, 7, 7, 7, 7, 7, 7, 7, 7, 7, 7, 7, 7, 7, 7, 7, 7, 7, 7, 7, 7, 7, 7, 7, 7, 7, 7, 7, 7, 7, 7, 7, 7, 7, 7, 7, 7, 7, 7, 7, 7, 7, 7, 8, 8, 8, 8, 8, 8, 8, 8, 8, 8, 8, 8, 8, 8, 8, 8, 8, 8, 8, 8, 8, 8, 8, 8, 8, 8, 8, 8, 8, 8, 8, 8, 8, 8, 8, 8, 8, 8, 8, 8, 8, 8, 8, 8, 8, 8, 8, 8, 8, 8, 8, 8, 8, 8, 8, 8, 8, 8, 8, 8, 8, 8, 8, 8, 8, 8, 8, 8, 8, 8, 8, 8, 8, 8, 8, 8, 8, 8, 8, 8, 8, 8, 8, 8, 8, 8, 8, 8, 8, 8, 8, 8, 8, 8, 8, 8, 8, 8, 8, 8, 8, 8, 8, 8, 8, 8, 8, 8, 8, 8, 8, 8, 8, 8, 8, 8, 8, 8, 8, 8, 8, 8, 8, 8, 8, 8, 8, 8]⟩ : ByteArray) ((a / 256) % 256)))))) else (none)) else (none)) else (if 0 ≤ ((a) % 256) then (if ((a) % 256) < 256 then (some (wrap64 (0 + (wrap64 (bt (⟨#[0, 1, 2, 2, 3, 3, 3, 3, 4, 4, 4, 4, 4, 4, 4, 4, 5, 5, 5, 5, 5, 5, 5, 5, 5, 5, 5, 5, 5, 5, 5, 5, 6, 6, 6, 6, 6, 6, 6, 6, 6, 6, 6, 6, 6, 6, 6, 6, 6, 6, 6, 6, 6, 6, 6, 6, 6, 6, 6, 6, 6, 6, 6, 6, 7, 7, 7, 7, 7, 7, 7, 7, 7, 7, 7, 7, 7, 7, 7, 7, 7, 7, 7, 7, 7, 7, 7, 7, 7, 7, 7, 7, 7, 7, 7, 7, 7, 7, 7, 7, 7, 7, 7, 7, 7, 7, 7, 7, 7, 7, 7, 7, 7, 7, 7, 7, 7, 7, 7, 7, 7, 7, 7, 7, 7, 7, 7, 7, 8, 8, 8, 8, 8, 8, 8, 8, 8, 8, 8, 8, 8, 8, 8, 8, 8, 8, 8, 8, 8, 8, 8, 8, 8, 8, 8, 8, 8, 8, 8, 8, 8, 8, 8, 8, 8, 8, 8, 8, 8, 8, 8, 8, 8, 8, 8, 8, 8, 8, 8, 8, 8, 8, 8, 8, 8, 8, 8, 8, 8, 8, 8, 8, 8, 8, 8, 8, 8, 8, 8, 8, 8, 8, 8, 8, 8, 8, 8, 8, 8, 8, 8, 8, 8, 8, 8, 8, 8, 8, 8, 8, 8, 8, 8, 8, 8, 8, 8, 8, 8, 8, 8, 8, 8, 8, 8, 8, 8, 8, 8, 8, 8, 8, 8, 8, 8, 8, 8, 8, 8, 8, 8, 8, 8, 8, 8, 8]⟩ : ByteArray) ((a) % 256)))))) else (none)) else (none)))
def bits_Len64.f (a : Int) : Option (Int) := if a ≥ 4294967296 then (if (a / 4294967296) ≥ 65536 then (if ((a / 4294967296) / 65536) ≥ 256 then (if 0 ≤ ((((a / 4294967296) / 65536) / 256) % 256) then (if ((((a / 4294967296) / 65536) / 256) % 256) < 256 then (some (wrap64 (((32 + 16) + 8) + (wrap64 (bt (⟨#[0, 1, 2, 2, 3, 3, 3, 3, 4, 4, 4, 4, 4, 4, 4, 4, 5, 5, 5, 5, 5, 5, 5, 5, 5, 5, 5, 5, 5, 5, 5, 5, 6, 6, 6, 6, 6, 6, 6, 6, 6, 6, 6, 6, 6, 6, 6, 6, 6, 6, 6, 6, 6, 6, 6, 6, 6, 6, 6, 6, 6, 6, 6, 6, 7, 7, 7, 7, 7, 7, 7, 7, 7, 7, 7, 7, 7, 7, 7, 7, 7, 7, 7, 7, 7, 7, 7, 7, 7, 7, 7, 7, 7, 7, 7, 7, 7, 7, 7, 7, 7, 7, 7, 7, 7, 7, 7, 7, 7, 7, 7, 7, 7, 7, 7, 7, 7, 7, 7, 7, 7, 7, 7, 7, 7, 7, 7, 7, 8, 8, 8, 8, 8, 8, 8, 8, 8, 8, 8, 8, 8, 8, 8, 8, 8, 8, 8, 8, 8, 8, 8, 8, 8, 8, 8, 8, 8, 8, 8, 8, 8, 8, 8, 8, 8, 8, 8, 8, 8, 8, 8, 8, 8, 8, 8, 8, 8, 8, 8, 8, 8, 8, 8, 8, 8, 8, 8, 8, 8, 8, 8, 8, 8, 8, 8, 8, 8, 8, 8, 8, 8, 8, 8, 8, 8, 8, 8, 8, 8, 8, 8, 8, 8, 8, 8, 8, 8, 8, 8, 8, 8, 8, 8, 8, 8, 8, 8, 8, 8, 8, 8, 8, 8, 8, 8, 8, 8, 8, 8, 8, 8, 8, 8, 8, 8, 8, 8, 8, 8, 8, 8, 8, 8, 8, 8, 8]⟩ : ByteArray) ((((a / 4294967296) / 65536) / 256) % 256)))))) else (none)) else (none)) else (if 0 ≤ (((a / 4294967296) / 65536) % 256) then (if (((a / 4294967296) / 65536) % 256) < 256 then (some (wrap64 ((32 + 16) + (wrap64 (bt (⟨#[0, 1, 2, 2, 3, 3, 3, 3, 4, 4, 4, 4, 4, 4, 4, 4, 5, 5, 5, 5, 5, 5, 5, 5, 5, 5, 5, 5, 5, 5, 5, 5, 6, 6, 6, 6, 6, 6, 6, 6, 6, 6, 6, 6, 6, 6, 6, 6, 6, 6, 6, 6, 6, 6, 6, 6, 6, 6, 6, 6, 6, 6, 6, 6, 7, 7, 7, 7, 7, 7, 7, 7, 7, 7, 7, 7, 7, 7, 7, 7, 7, 7, 7, 7, 7, 7, 7, 7, 7, 7, 7, 7, 7, 7, 7, 7, 7, 7, 7, 7, 7, 7, 7, 7, 7, 7, 7, 7, 7, 7, 7, 7, 7, 7, 7, 7, 7, 7, 7, 7, 7, 7, 7, 7, 7, 7, 7, 7, 8, 8, 8, 8, 8, 8, 8, 8, 8, 8, 8, 8, 8, 8, 8, 8, 8, 8, 8, 8, 8, 8, 8, 8, 8, 8, 8, 8, 8, 8, 8, 8, 8, 8, 8, 8, 8, 8, 8, 8, 8, 8, 8, 8, 8, 8, 8, 8, 8, 8, 8, 8, 8, 8, 8, 8, 8, 8, 8, 8, 8, 8, 8, 8, 8, 8, 8, 8, 8, 8, 8, 8, 8, 8, 8, 8, 8, 8, 8, 8, 8, 8, 8, 8, 8, 8, 8, 8, 8, 8, 8, 8, 8, 8, 8, 8, 8, 8, 8, 8, 8, 8, 8, 8, 8, 8, 8, 8, 8, 8, 8, 8, 8, 8, 8, 8, 8, 8, 8, 8, 8, 8, 8, 8, 8, 8, 8, 8]⟩ : ByteArray) (((a / 4294967296) / 65536) % 256)))))) else (none)) else (none))) else (if (a / 4294967296) ≥ 256 then (if 0 ≤ (((a / 4294967296) / 256) % 256) then (if (((a / 4294967296) / 256) % 256) < 256 then (some (wrap64 ((32 + 8) + (wrap64 (bt (⟨#[0, 1, 2, 2, 3, 3, 3, 3, 4, 4, 4, 4, 4, 4, 4, 4, 5, 5, 5, 5, 5, 5, 5, 5, 5, 5, 5, 5, 5, 5, 5, 5, 6, 6, 6, 6, 6, 6, 6, 6, 6, 6, 6, 6, 6, 6, 6, 6, 6, 6, 6, 6, 6, 6, 6, 6, 6, 6, 6, 6, 6, 6, 6, 6, 7, 7, 7, 7, 7, 7, 7, 7, 7, 7, 7, 7, 7, 7, 7, 7, 7, 7, 7, 7, 7, 7, 7, 7, 7, 7, 7, 7, 7, 7, 7, 7, 7, 7, 7, 7, 7, 7, 7, 7, 7, 7, 7, 7, 7, 7, 7, 7, 7, 7, 7, 7, 7, 7, 7, 7, 7, 7, 7, 7, 7, 7, 7, 7, 8, 8, 8, 8, 8, 8, 8, 8, 8, 8, 8, 8, 8, 8, 8, 8, 8, 8, 8, 8, 8, 8, 8, 8, 8, 8, 8, 8, 8, 8, 8, 8, 8, 8, 8, 8, 8, 8, 8, 8, 8, 8, 8, 8, 8, 8, 8, 8, 8, 8, 8, 8, 8, 8, 8, 8, 8, 8, 8, 8, 8, 8, 8, 8, 8, 8, 8, 8, 8, 8, 8, 8, 8, 8, 8, 8, 8, 8, 8, 8, 8, 8, 8, 8, 8, 8, 8, 8, 8, 8, 8, 8, 8, 8, 8, 8, 8, 8, 8, 8, 8, 8, 8, 8, 8, 8, 8, 8, 8, 8, 8, 8, 8, 8, 8, 8, 8, 8, 8, 8, 8, 8, 8, 8, 8, 8, 8, 8]⟩ : ByteArray) (((a / 4294967296) / 256) % 256)))))) else (none)) else (none)) else (if 0 ≤ ((a / 4294967296) % 256) then (if ((a / 4294967296) % 256) < 256 then (some (wrap64 (32 + (wrap64 (bt (⟨#[0, 1, 2, 2, 3, 3, 3, 3, 4, 4, 4, 4, 4, 4, 4, 4, 5, 5, 5, 5, 5, 5, 5, 5, 5, 5, 5, 5, 5, 5, 5, 5, 6, 6, 6, 6, 6, 6, 6, 6, 6, 6, 6, 6, 6, 6, 6, 6, 6, 6, 6, 6, 6, 6, 6, 6, 6, 6, 6, 6, 6, 6, 6, 6, 7, 7, 7, 7, 7, 7, 7, 7, 7, 7, 7, 7, 7, 7, 7, 7, 7, 7, 7, 7, 7, 7, 7, 7, 7, 7, 7, 7, 7, 7, 7, 7, 7, 7, 7, 7, 7, 7, 7, 7, 7, 7, 7, 7, 7, 7, 7, 7, 7, 7, 7, 7, 7, 7, 7, 7, 7, 7, 7, 7, 7, 7, 7, 7, 8, 8, 8, 8, 8, 8, 8, 8, 8, 8, 8, 8, 8, 8, 8, 8, 8, 8, 8, 8, 8, 8, 8, 8, 8, 8, 8, 8, 8, 8, 8, 8, 8, 8, 8, 8, 8, 8, 8, 8, 8, 8, 8, 8, 8, 8, 8, 8, 8, 8, 8, 8, 8, 8, 8, 8, 8, 8, 8, 8, 8, 8, 8, 8, 8, 8, 8, 8, 8, 8, 8, 8, 8, 8, 8, 8, 8, 8, 8, 8, 8, 8, 8, 8, 8, 8, 8, 8, 8, 8, 8, 8, 8, 8, 8, 8, 8, 8, 8, 8, 8, 8, 8, 8, 8, 8, 8, 8, 8, 8, 8, 8, 8, 8, 8, 8, 8, 8, 8, 8, 8, 8, 8, 8, 8, 8, 8, 8]⟩ : ByteArray) ((a / 4294967296) % 256)))))) else (none)) else (none)))) else (if a ≥ 65536 then (if (a / 65536) ≥ 256 then (if 0 ≤ (((a / 65536) / 256) % 256) then (if (((a / 65536) / 256) % 256) < 256 then (some (wrap64 (((0 + 16) + 8) + (wrap64 (bt (⟨#[0, 1, 2, 2, 3, 3, 3, 3, 4, 4, 4, 4, 4, 4, 4, 4, 5, 5, 5, 5, 5, 5, 5, 5, 5, 5, 5, 5, 5, 5, 5, 5, 6, 6, 6, 6, 6, 6, 6, 6, 6, 6, 6, 6, 6, 6, 6, 6, 6, 6, 6, 6, 6, 6, 6, 6, 6, 6, 6, 6, 6, 6, 6, 6, 7, 7, 7, 7, 7, 7, 7, 7, 7, 7, 7, 7, 7, 7, 7, 7, 7, 7, 7, 7, 7, 7, 7, 7, 7, 7, 7, 7, 7, 7, 7, 7, 7, 7, 7, 7, 7, 7, 7, 7, 7, 7, 7, 7, 7, 7, 7, 7, 7, 7, 7, 7, 7, 7, 7, 7, 7, 7, 7, 7, 7, 7, 7, 7, 8, 8, 8, 8, 8, 8, 8, 8, 8, 8, 8, 8, 8, 8, 8, 8, 8, 8, 8, 8, 8, 8, 8, 8, 8, 8, 8, 8, 8, 8, 8, 8, 8, 8, 8, 8, 8, 8, 8, 8, 8, 8, 8, 8, 8, 8, 8, 8, 8, 8, 8, 8, 8, 8, 8, 8, 8, 8, 8, 8, 8, 8, 8, 8, 8, 8, 8, 8, 8, 8, 8, 8, 8, 8, 8, 8, 8, 8, 8, 8, 8, 8, 8, 8, 8, 8, 8, 8, 8, 8, 8, 8, 8, 8, 8, 8, 8, 8, 8, 8, 8, 8, 8, 8, 8, 8, 8, 8, 8, 8, 8, 8, 8, 8, 8, 8, 8, 8, 8, 8, 8, 8, 8, 8, 8, 8, 8, 8]⟩ : ByteArray) (((a / 65536) / 256) % 256)))))) else (none)) else (none)) else (if 0 ≤ ((a / 65536) % 256) then (if ((a / 65536) % 256) < 256 then (some (wrap64 ((0 + 16) + (wrap64 (bt (⟨#[0, 1, 2, 2, 3, 3, 3, 3, 4, 4, 4, 4, 4, 4, 4, 4, 5, 5, 5, 5, 5, 5, 5, 5, 5, 5, 5, 5, 5, 5, 5, 5, 6, 6, 6, 6, 6, 6, 6, 6, 6, 6, 6, 6, 6, 6, 6, 6, 6, 6, 6, 6, 6, 6, 6, 6, 6, 6, 6, 6, 6, 6, 6, 6, 7, 7, 7, 7, 7, 7, 7, 7, 7, 7, 7, 7, 7, 7, 7, 7, 7, 7, 7, 7, 7, 7, 7, 7, 7, 7, 7, 7, 7, 7, 7, 7, 7, 7, 7, 7, 7, 7, 7, 7, 7, 7, 7, 7, 7, 7, 7, 7, 7, 7, 7, 7, 7, 7, 7, 7, 7, 7, 7, 7, 7, 7, 7, 7, 8, 8, 8, 8, 8, 8, 8, 8, 8, 8, 8, 8, 8, 8, 8, 8, 8, 8, 8, 8, 8, 8, 8, 8, 8, 8, 8, 8, 8, 8, 8, 8, 8, 8, 8, 8, 8, 8, 8, 8, 8, 8, 8, 8, 8, 8, 8, 8, 8, 8, 8, 8, 8, 8, 8, 8, 8, 8, 8, 8, 8, 8, 8, 8, 8, 8, 8, 8, 8, 8, 8, 8, 8, 8, 8, 8, 8, 8, 8, 8, 8, 8, 8, 8, 8, 8, 8, 8, 8, 8, 8, 8, 8, 8, 8, 8, 8, 8, 8, 8, 8, 8, 8, 8, 8, 8, 8, 8, 8, 8, 8, 8, 8, 8, 8, 8, 8, 8, 8, 8, 8, 8, 8, 8, 8, 8, 8, 8]⟩ : ByteArray) ((a / 65536) % 256)))))) else (none)) else (none))) else (if a ≥ 256 then (if 0 ≤ ((a / 256) % 256) then (if ((a / 256) % 256) < 256 then (some (wrap64 ((0 + 8) + (wrap64 (bt (⟨#[0, 1, 2, 2, 3, 3, 3, 3, 4, 4, 4, 4, 4, 4, 4, 4, 5, 5, 5, 5, 5, 5, 5, 5, 5, 5, 5, 5, 5, 5, 5, 5, 6, 6, 6, 6, 6, 6, 6, 6, 6, 6, 6, 6, 6, 6, 6, 6, 6, 6, 6, 6, 6, 6, 6, 6, 6, 6, 6, 6, 6, 6, 6, 6, 7, 7, 7, 7, 7, 7, 7, 7, 7, 7, 7, 7, 7, 7, 7, 7, 7, 7, 7, 7, 7, 7, 7, 7, 7, 7, 7, 7, 7, 7, 7, 7, 7, 7, 7, 7, 7, 7, 7, 7, 7, 7, 7, 7, 7, 7, 7, 7, 7, 7, 7, 7, 7, 7, 7, 7, 7, 7, 7, 7, 7, 7, 7, 7, 8, 8, 8, 8, 8, 8, 8, 8, 8, 8, 8, 8, 8, 8, 8, 8, 8, 8, 8, 8, 8, 8, 8, 8, 8, 8, 8, 8, 8, 8, 8, 8, 8, 8, 8, 8, 8, 8, 8, 8, 8, 8, 8, 8, 8, 8, 8, 8, 8, 8, 8, 8, 8, 8, 8, 8, 8, 8, 8, 8, 8, 8, 8, 8, 8, 8, 8, 8, 8, 8, 8, 8, 8, 8, 8, 8, 8, 8, 8, 8, 8, 8, 8, 8, 8, 8, 8, 8, 8, 8, 8, 8, 8, 8, 8, 8, 8, 8, 8, 8, 8, 8, 8, 8, 8, 8, 8, 8, 8, 8, 8, 8, 8, 8, 8, 8, 8, 8, 8, 8, 8, 8, 8, 8, 8, 8, 8, 8]⟩ : ByteArray) ((a / 256) % 256)))))) else (none)) else (none)) else (if 0 ≤ ((a) % 256) then (if ((a) % 256) < 256 then (some (wrap64 (0 + (wrap64 (bt (⟨#[0, 1, 2, 2, 3, 3, 3, 3, 4, 4, 4, 4, 4, 4, 4, 4, 5, 5, 5, 5, 5, 5, 5, 5, 5, 5, 5, 5, 5, 5, 5, 5, 6, 6, 6, 6, 6, 6, 6, 6, 6, 6, 6, 6, 6, 6, 6, 6, 6, 6, 6, 6, 6, 6, 6, 6, 6, 6, 6, 6, 6, 6, 6, 6, 7, 7, 7, 7, 7, 7, 7, 7, 7, 7, 7, 7, 7, 7, 7, 7, 7, 7, 7, 7, 7, 7, 7, 7, 7, 7, 7, 7, 7, 7, 7, 7, 7, 7, 7, 7, 7, 7, 7, 7, 7, 7, 7, 7, 7, 7, 7, 7, 7, 7, 7, 7, 7, 7, 7, 7, 7, 7, 7, 7, 7, 7, 7, 7, 8, 8, 8, 8, 8, 8, 8, 8, 8, 8, 8, 8, 8, 8, 8, 8, 8, 8, 8, 8, 8, 8, 8, 8, 8, 8, 8, 8, 8, 8, 8, 8, 8, 8, 8, 8, 8, 8, 8, 8, 8, 8, 8, 8, 8, 8, 8, 8, 8, 8, 8, 8, 8, 8, 8, 8, 8, 8, 8, 8, 8, 8, 8, 8, 8, 8, 8, 8, 8, 8, 8, 8, 8, 8, 8, 8, 8, 8, 8, 8, 8, 8, 8, 8, 8, 8, 8, 8, 8, 8, 8, 8, 8, 8, 8, 8, 8, 8, 8, 8, 8, 8, 8, 8, 8, 8, 8, 8, 8, 8, 8, 8, 8, 8, 8, 8, 8, 8, 8, 8, 8, 8, 8, 8, 8, 8, 8, 8]⟩ : ByteArray) ((a) % 256)))))) else (none)) else (none))))
def bits_Len.f (l : Int) : Option (Int) := (bits_Len64.f l).bind fun a => (some a)
def slices_nextPowerOfTwo.f (l : Int) : Option (Int) := (bits_Len.f (IntKind.u64.wrap (l))).bind fun a => (if 0 ≤ a then (some (shl .u64 1 a)) else (none))
def cmp_Or_int.l0 : Nat → Int → List Int → Int → Int → Option (Int)
 | 0, _, _, _, _ => none
 | k + 1, o, l, q, a => if a < q then (if 0 ≤ a then (if a < (l.length : Int) then (if (rd l a) = o then (cmp_Or_int.l0 k o l q (wrap64 (a + 1))) else (some (rd l a))) else (none)) else (none)) else (some o)
def cmp_Or_int.f (k : Nat) (a : List Int) : Option (Int) := cmp_Or_int.l0 k 0 a (a.length : Int) 0
theorem cmp_Or_int.calls (k) (U) (X) (q : List Int) (r) (w) (E : Kd.C (Kd.int .i64) w U q.length q) (I : q.length ≤ X) (h : cmp_Or_int.f k q = some r) :
 Calls Try.prog 19 #[.slice U q.length X] w fun e w' => e = .returned (.int .i64 r) ∧ Drawn0 w w' := by
 have J := zK E
 have d0 := zK I
 clear E I
 have H : (cmp_Or_int.l0 k 0 q (q.length : Int) 0) = some r := h
 clear h
 have H' := zK H
 clear H
 go_enter Try.func19, Try.ntmps19
 go_wp2
 go_loopg [8] k (fun kq v8 w' => ∃ (a : Int), v8 = .int .i64 a ∧ Aside0 (cmp_Or_int.l0 kq 0 q (q.length : Int) a = some r) ∧ Aside0 (kq ≤ k) ∧ Drawn0 w w')
 case atStart => exact ⟨(0), zR, H', ⟨Nat.le_refl _⟩, zD⟩
 clear H'
 try clear c1
 obtain ⟨a, rfl, HA, L, ⟨m1, rfl⟩⟩ := hrel
 rcases gk with _ | k1
 · exact absurd HA.out (by simp [cmp_Or_int.l0])
 have H := HA.out
 clear HA
 simp only [cmp_Or_int.l0] at H
 by_cases y : a < (q.length : Int)
 rotate_left
 · rw [if_neg y] at H
   have M := z2 y
   clear y
   obtain rfl := z5 H
   go_wp2
   go_ret
   exact ⟨zR, zD⟩
 rw [if_pos y] at H
 have M := z1 y
 clear y
 by_cases A : 0 ≤ a
 rotate_left
 · rw [if_neg A] at H
   exact absurd H (by simp)
 rw [if_pos A] at H
 have a0 := z1 A
 clear A
 by_cases B : a < (q.length : Int)
 rotate_left
 · rw [if_neg B] at H
   exact absurd H (by simp)
 rw [if_pos B] at H
 have b0 := z1 B
 clear B
 by_cases u : (rd q a) = 0
 rotate_left
 · rw [if_neg u] at H
   have O := beq_eq_false_iff_ne.mpr u
   have T := bne_iff_ne.mpr u
   obtain rfl := z5 H
   have l : 0 ≤ (a : Int) := z3
   have o : a < (q.length : Int) := z3
   obtain ⟨D, x, z⟩ := Kd.at_int J.out a l o
   cases x
   replace l := eq_true l
   replace o := eq_true o
   go_wp2
   go_ret
   exact ⟨zR, zD⟩
 rw [if_pos u] at H
 have O := beq_iff_eq.mpr u
 have T := bne_eq_false_iff_eq.mpr u
 clear u
 have H' := zK H
 clear H
 have l : 0 ≤ (a : Int) := z3
 have o : a < (q.length : Int) := z3
 obtain ⟨D, x, z⟩ := Kd.at_int J.out a l o
 cases x
 replace l := eq_true l
 replace o := eq_true o
 go_wp2
 go_roundg k1
 case measure => have := L.out; omega
 case rel => exact ⟨(wrap64 (a + 1)), zR, H', ⟨by have := L.out; omega⟩, zD⟩
def cmp_isNaN_int.f (a : Int) : Option (Bool) := some (a != a)
theorem cmp_isNaN_int.calls (a) (r : Bool) (w) (h : cmp_isNaN_int.f a = some r) :
 Calls Try.prog 31 #[.int .i64 a] w fun e w' => e = .returned (.bool r) ∧ Drawn0 w w' := by
 have H : (some (a != a)) = some r := h
 clear h
 obtain rfl := z5 H
 go_enter Try.func31, Try.ntmps31
 go_wp2
 go_ret
 exact ⟨zR, zD⟩
end Go.Proofs.Ytiabkadcgmamaaa.PFnExactFillSlots
