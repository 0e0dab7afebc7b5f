-- Printed out of the translation by this session's own turned copy of a printer; Lean checks it.
import Derived.Test.YtiabkadcgmamaaaPFnExactFillSlotsx0
import Derived.Test.YtiabkadcgmamaaaPFnExactFillSlotsx3
import Derived.Test.YtiabkadcgmamaaaEFnExactFillSlotss
namespace Go.Proofs.Ytiabkadcgmamaaa.PFnExactFillSlots
open Go.RowKit Go.Proofs.YtiabkadcgmamaaaW.PrintWords Go.Proofs.YtiabkadcgmamaaaW.PrintLast Go.Proofs.YtiabkadcgmamaaaW.PrintMore
attribute [local go_sem] max2_int min2_int max_two min_two max_three min_three max_four min_four
set_option linter.unusedVariables false
set_option linter.unusedSimpArgs false
set_option maxHeartbeats 8000000
set_option maxRecDepth 100000
mutual
def impl_FillSlots.l0 : Nat → Int → Int → List (S29) → Int → Int → Option ((List (S29)))
 | 0, _, _, _, _, _ => none
 | k + 1, u, o, q, l, a => if a < l then (impl_FillSlots.l1 k u o q a l a o 0) else (if q.length < 4611686018427387904 then some (SortSlots.sortL q) else none)
def impl_FillSlots.l1 : Nat → Int → Int → List (S29) → Int → Int → Int → Int → Int → Option ((List (S29)))
 | 0, _, _, _, _, _, _, _, _ => none
 | k + 1, q, z, A, l, u, x, y, a => if a < y then ((some (([(⟨wrap64 (l + a), l, a, false⟩ : S29), (⟨wrap64 ((wrap64 ((wrap64 ((wrap64 ((wrap64 ((wrap64 (q + z)) - 1)) + q)) - 1)) - l)) + a), l, a, true⟩ : S29)] : List (S29)) : List (S29))).bind fun o => (if A.length + o.length < 4398046511104 then (impl_FillSlots.l1 k q z (A ++ o) l u x y (wrap64 (a + 1))) else (none))) else (impl_FillSlots.l0 k q z A u (wrap64 (x + 1)))
end
def impl_FillSlots.f (k : Nat) (a : Int) (o : Int) : Option ((List (S29))) := (impl_stagesOk.f a o).bind fun l => (if l = true then (impl_FillSlots.l0 k a o (([] : List (S29))) a 0) else (some ([] : List (S29))))
theorem impl_FillSlots.calls (k) (o) (q) (r : List (S29)) (w) (h : impl_FillSlots.f k o q = some r) :
 Calls Try.prog 5 #[.int .i64 o, .int .i64 q] w fun e w' => ∃ v0_ : Value, e = .returned (v0_) ∧ Kd.R k29 29 w' w.heap.size (fun _ => True) v0_ r ∧ Below w.heap.size w w' := by
 have B0 := Try.underlying29
 have HB := zK (Below.refl w.heap.size w)
 have H : ((impl_stagesOk.f o q).bind fun U => (if U = true then (impl_FillSlots.l0 k o q (([] : List (S29))) o 0) else (some ([] : List (S29))))) = some r := h
 clear h
 replace H := z6 H
 obtain ⟨U, p0, H⟩ := H
 have A3 := zK p0
 clear p0
 by_cases c4 : U = true
 rotate_left
 · replace c4 := Bool.eq_false_iff.mpr c4
   subst c4
   rw [if_neg (show ¬ (false = true) by decide)] at H
   obtain rfl := z5 H
   go_enter Try.func5, Try.ntmps5
   go_wp2_with (first | ((with_reducible refine gc 11 rfl ?_); refine zF 10 Try.func11 #[.int .i64 o, .int .i64 q] rfl zL ?_; (with_reducible refine (impl_stagesOk.calls o q false _ A3.out).mono ?_); rintro e w' ⟨rfl, ⟨nd, rfl⟩⟩; refine ⟨_, rfl, ?_⟩))
   go_ret
   exact ⟨_, zE, by first | exact Kd.R_nil _ _ _ _ _ | exact Kd.N_nil _ _ _ _ _ | exact Kd.V_nil _ _ _ _ _ | exact Kd.Q_nil _ _ _ _ _ | exact Kd.S_nil _ _ _ _ _, zB⟩
 subst c4
 rw [if_pos rfl] at H
 obtain ⟨f0, A⟩ : ∃ y_ : List (S29), y_ = (([] : List (S29))) := ⟨_, rfl⟩
 replace H : (impl_FillSlots.l0 k o q f0 o 0) = some r := by first | (rw [A]; with_reducible exact H) | (have y := (Option.bind_some _ _).symm.trans H; rw [A]; with_reducible exact y) | (have y := (Option.bind_some _ _).symm.trans H; with_reducible exact y) | with_reducible exact H | (rw [A]; exact H) | exact H
 have Ny213 := zK A
 clear A
 have H' := zK H
 clear H
 go_enter Try.func5, Try.ntmps5
 go_wp2_with (first | ((with_reducible refine gc 11 rfl ?_); refine zF 10 Try.func11 #[.int .i64 o, .int .i64 q] rfl zL ?_; (with_reducible refine (impl_stagesOk.calls o q true _ A3.out).mono ?_); rintro e w' ⟨rfl, ⟨nd, rfl⟩⟩; refine ⟨_, rfl, ?_⟩) | ((with_reducible refine gd 12 rfl ?_); refine Kd.R_lit k29 _ 29 ?hg (N := 12) ?hd (xs := ([] : List (S29))) (inner := []) (ok := fun _ => True) (okp := fun _ => True) ?hr ?hp (fun _ hk => hk) trivial (Below.refl _ _) (Nat.le_refl _) (by simp) ?_; (case hd => rfl); (case hg => rfl); (case hr => first | (go_simp; done) | (go_simp; rfl)); (case hp => exact (Reps.none _ _)); intro v214 w5 L hb hg_ hnew_; clear hg_ hnew_; (first | rw [← Ny213.out] at L | (simp only [Int.reduceToNat] at L; rw [← Ny213.out] at L)); have O := zK (Kd.R_lower L (zz zB)); have T := z8 hb; revert O T; clear HB; intro m0 HB; clear hb L))
 go_loopg [5, 14] k (fun kq v5 v14 w' => ∃ (J : List (S29)) (a : Int), v14 = .int .i64 a ∧ Aside0 (impl_FillSlots.l0 kq o q J o a = some r) ∧ Aside0 (kq ≤ k) ∧ Aside0 (Kd.R k29 29 w' w.heap.size (fun _ => True) v5 J) ∧ Aside0 (Below w.heap.size w w'))
 case atStart => exact ⟨(f0), (0), zR, H', ⟨Nat.le_refl _⟩, ⟨zkR m0⟩, ⟨zB⟩⟩
 clear H'
 try clear c1
 try clear p2
 try clear c4
 try clear c5
 obtain ⟨J, a, rfl, HA, b0, u, HB⟩ := hrel
 rcases gk with _ | k1
 · exact absurd HA.out (by simp [impl_FillSlots.l0])
 have H := HA.out
 clear HA
 simp only [impl_FillSlots.l0] at H
 by_cases X : a < o
 rotate_left
 · rw [if_neg X] at H
   have g0 := z2 X
   clear X
   by_cases hl_ : J.length < 4611686018427387904
   rotate_left
   · rw [if_neg hl_] at H
     exact absurd H (by simp)
   rw [if_pos hl_] at H
   obtain rfl := z5 H
   have LS := zK hl_
   clear hl_
   go_wp2_with (go_at_call 12; refine (SortSlots.sort_call J LS.out _ w.heap.size (fun _ => True) _ (zkR u)).mono ?_; rintro e w2 ⟨rfl, hR2, hb2⟩; have u := zK hR2; have HB := zK (Below.trans (by repeat (first | exact HB.out | apply zb | apply zw | apply ze)) hb2); clear hR2 hb2)
   go_ret
   exact ⟨_, zE, zkR u, zB⟩
 rw [if_pos X] at H
 have g0 := z1 X
 clear X
 have H' := zK H
 clear H
 go_wp2
 go_loopg [5, 18] k1 (fun kq v5 v18 w' => ∃ (x : List (S29)) (l : Int), v18 = .int .i64 l ∧ Aside0 (impl_FillSlots.l1 kq o q x a o a q l = some r) ∧ Aside0 (kq ≤ k1) ∧ Aside0 (Kd.R k29 29 w' w.heap.size (fun _ => True) v5 x) ∧ Aside0 (Below w.heap.size w w'))
 case atStart => exact ⟨(J), (0), zR, H', ⟨Nat.le_refl _⟩, ⟨zkR u⟩, ⟨zB⟩⟩
 clear H'
 try clear c1
 try clear p2
 try clear c4
 try clear c5
 try clear X
 try clear g0
 try clear p2
 obtain ⟨x, l, rfl, HA, c0, u, HB⟩ := hrel
 rcases gk with _ | k2
 · exact absurd HA.out (by simp [impl_FillSlots.l1])
 have H := HA.out
 clear HA
 simp only [impl_FillSlots.l1] at H
 by_cases c8 : l < q
 rotate_left
 · rw [if_neg c8] at H
   have q0 := z2 c8
   clear c8
   have H' := zK H
   clear H
   go_wp2
   go_roundg k2
   case measure => have := b0.out; have := c0.out; omega
   case rel => exact ⟨(x), (wrap64 (a + 1)), zR, H', ⟨by have := b0.out; have := c0.out; omega⟩, ⟨zkR u⟩, ⟨zB⟩⟩
 rw [if_pos c8] at H
 have q0 := z1 c8
 clear c8
 obtain ⟨E, B⟩ : ∃ y_ : List (S29), y_ = (([(⟨wrap64 (a + l), a, l, false⟩ : S29), (⟨wrap64 ((wrap64 ((wrap64 ((wrap64 ((wrap64 ((wrap64 (o + q)) - 1)) + o)) - 1)) - a)) + l), a, l, true⟩ : S29)] : List (S29))) := ⟨_, rfl⟩
 replace H : (if x.length + E.length < 4398046511104 then (impl_FillSlots.l1 k2 o q (x ++ E) a o a q (wrap64 (l + 1))) else (none)) = some r := by first | (rw [B]; with_reducible exact H) | (have y := (Option.bind_some _ _).symm.trans H; rw [B]; with_reducible exact y) | (have y := (Option.bind_some _ _).symm.trans H; with_reducible exact y) | with_reducible exact H | (rw [B]; exact H) | exact H
 have Ny216 := zK B
 clear B
 by_cases c9 : x.length + E.length < 4398046511104
 rotate_left
 · rw [if_neg c9] at H
   exact absurd H (by simp)
 rw [if_pos c9] at H
 have LMc9 := zK c9
 clear c9
 obtain ⟨i0, D⟩ : ∃ y_ : List (S29), y_ = (x ++ E) := ⟨_, rfl⟩
 replace H : (impl_FillSlots.l1 k2 o q i0 a o a q (wrap64 (l + 1))) = some r := by first | (rw [D]; with_reducible exact H) | (have y := (Option.bind_some _ _).symm.trans H; rw [D]; with_reducible exact y) | (have y := (Option.bind_some _ _).symm.trans H; with_reducible exact y) | with_reducible exact H | (rw [D]; exact H) | exact H
 have Ny219 := zK D
 clear D
 have H' := zK H
 clear H
 go_wp2_with (first | ((with_reducible refine gd 42 rfl ?_); refine Kd.R_lit k29 _ 29 ?hg (N := 42) ?hd (xs := ([(⟨wrap64 (a + l), a, l, false⟩ : S29), (⟨wrap64 ((wrap64 ((wrap64 ((wrap64 ((wrap64 ((wrap64 (o + q)) - 1)) + o)) - 1)) - a)) + l), a, l, true⟩ : S29)] : List (S29))) (inner := [.int .i64 (wrap64 (a + l)), .int .i64 a, .int .i64 l, .bool false, .int .i64 (wrap64 ((wrap64 ((wrap64 ((wrap64 ((wrap64 ((wrap64 (o + q)) - 1)) + o)) - 1)) - a)) + l)), .int .i64 a, .int .i64 l, .bool true]) (ok := fun _ => True) (okp := fun _ => True) ?hr ?hp (fun _ hk => hk) trivial (Below.refl _ _) (Nat.le_refl _) (by simp) ?_; (case hd => rfl); (case hg => rfl); (case hr => first | (go_simp; done) | (go_simp; rfl)); (case hp => exact (Reps.c4 (show Kd.M k29 _ _ _ (⟨wrap64 (a + l), a, l, false⟩ : S29) [.int .i64 (wrap64 (a + l)), .int .i64 a, .int .i64 l, .bool false] from (k29_mkM _ _ _ (⟨wrap64 (a + l), a, l, false⟩ : S29) )) (Reps.c4 (show Kd.M k29 _ _ _ (⟨wrap64 ((wrap64 ((wrap64 ((wrap64 ((wrap64 ((wrap64 (o + q)) - 1)) + o)) - 1)) - a)) + l), a, l, true⟩ : S29) [.int .i64 (wrap64 ((wrap64 ((wrap64 ((wrap64 ((wrap64 ((wrap64 (o + q)) - 1)) + o)) - 1)) - a)) + l)), .int .i64 a, .int .i64 l, .bool true] from (k29_mkM _ _ _ (⟨wrap64 ((wrap64 ((wrap64 ((wrap64 ((wrap64 ((wrap64 (o + q)) - 1)) + o)) - 1)) - a)) + l), a, l, true⟩ : S29) )) (Reps.none _ _)))); intro v217 E0 I hb hg_ hnew_; clear hg_ hnew_; (first | rw [← Ny216.out] at I | (simp only [Int.reduceToNat] at I; rw [← Ny216.out] at I)); have O := zK (Kd.R_elder' (zkR u) (Kd.R_base I) hb); have T := zK (Kd.R_lower (Kd.R_new' I (Kd.R_lt (zkR u))) (zz zB)); have j0 := z8 hb; revert O T j0; clear u HB; intro u z HB; clear hb I; obtain ⟨s0, t0, x0⟩ := Kd.R_slice z.out; subst x0) | ((with_reducible refine gate_builtin (b := .append) (xs := #[.tmp 21, .tmp 42]) rfl ?_); at_builtin; refine Kd.R_append_rows k29 (w0 := w) w.heap.size rfl (.tmp 21) (.tmp 42) 22 29 (.agg #[(.int .i64 0), (.int .i64 0), (.int .i64 0), (.bool false)]) 32 rfl Try.underlying22 info29 rfl (by decide) (by omega) u5 x E _ _ _ (fun k_ => some k_ ≠ (.slice s0 E.length t0 : Value).ownBlock) (fun _ => False) rfl rfl ?aO ?aR (fun _ _ h => h) (fun _ h => h.elim) ?aF ?aB ?aS ?aL ?_; (case aR => exact zC (Kd.R_reads' z.out).2.2); (case aB => exact zB); (case aF => exact (fun k_ hk => Kd.fresh' (Kd.R_lt (zkR z)) k_ hk)); (case aO => exact (Kd.R_mono (zlR u.out) (fun _ hk => hk.2))); (case aS => exact (zz zB)); (case aL => have := LMc9.out; omega); intro v220 F0 ho hb hg hat; rw [← Ny219.out] at ho; have O := zK (Kd.R_after (ok := (fun _ => True)) (zkR z) hg hat); have T := zK (hb); have j0 := zK (ho); revert O T j0; clear z HB u; intro z HB o0; clear ho hb hg hat))
 go_roundg k2
 case measure => have := b0.out; have := c0.out; omega
 case rel => exact ⟨(i0), (wrap64 (l + 1)), zR, H', ⟨by have := b0.out; have := c0.out; omega⟩, ⟨Kd.R_mono (zlR o0.out) (fun _ hk => trivial)⟩, ⟨zB⟩⟩
end Go.Proofs.Ytiabkadcgmamaaa.PFnExactFillSlots
