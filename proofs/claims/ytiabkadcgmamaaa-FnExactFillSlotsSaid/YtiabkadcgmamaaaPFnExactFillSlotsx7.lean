-- Printed out of the translation by this session's own turned copy of a printer; Lean checks it.
import Derived.Test.YtiabkadcgmamaaaPFnExactFillSlotsx0
import Derived.Test.YtiabkadcgmamaaaPFnExactFillSlotsx3
import Derived.Test.YtiabkadcgmamaaaPFnExactFillSlotsx5
import Derived.Test.YtiabkadcgmamaaaPFnExactFillSlotsx6
namespace Go.Proofs.Ytiabkadcgmamaaa.PFnExactFillSlots
open Go.RowKit Go.Proofs.YtiabkadcgmamaaaW.PrintWords Go.Proofs.YtiabkadcgmamaaaW.PrintLast Go.Proofs.YtiabkadcgmamaaaW.PrintMore
attribute [local go_sem] max2_int min2_int max_two min_two max_three min_three max_four min_four
set_option linter.unusedVariables false
set_option linter.unusedSimpArgs false
set_option maxHeartbeats 8000000
set_option maxRecDepth 100000
def laws_FnExactFillSlots.f (k : Nat) (x : Int) (y : Int) : Option (Bool) := (spec_FillSlots.f k x y).bind fun l => ((impl_FillSlots.f k x y).bind fun o => ((laws_eqSlotS.f k o l).bind fun z => (if z = true then ((laws_markSlotS.f k o 1).bind fun a => ((laws_heldSlotS.f k a.2 1).bind fun q => (if q < 0 then (some false) else (if q = a.1 then ((impl_FillSlots.f k x y).bind fun A => ((laws_eqSlotS.f k A l).bind fun B => (if B = true then ((laws_heldSlotS.f k a.2 1).bind fun u => (if u < 0 then (some false) else (if u = a.1 then (some true) else (some false)))) else (some false)))) else (some false))))) else (some false))))
theorem laws_FnExactFillSlots.calls (k) (M) (O) (r : Bool) (w) (h : laws_FnExactFillSlots.f k M O = some true) :
 Calls Try.prog 3 #[.int .i64 M, .int .i64 O] w fun e w' => e = .returned (.bool true) ∧ Below w.heap.size w w' := by
 have HB := zK (Below.refl w.heap.size w)
 have H : ((spec_FillSlots.f k M O).bind fun u => ((impl_FillSlots.f k M O).bind fun o => ((laws_eqSlotS.f k o u).bind fun e0 => (if e0 = true then ((laws_markSlotS.f k o 1).bind fun T => ((laws_heldSlotS.f k T.2 1).bind fun x => (if x < 0 then (some false) else (if x = T.1 then ((impl_FillSlots.f k M O).bind fun D => ((laws_eqSlotS.f k D u).bind fun U => (if U = true then ((laws_heldSlotS.f k T.2 1).bind fun y => (if y < 0 then (some false) else (if y = T.1 then (some true) else (some false)))) else (some false)))) else (some false))))) else (some false))))) = some true := h
 clear h
 replace H := z6 H
 obtain ⟨u, A0, H⟩ := H
 have A3 := zK A0
 clear A0
 replace H := z6 H
 obtain ⟨o, B0, H⟩ := H
 have A4 := zK B0
 clear B0
 replace H := z6 H
 obtain ⟨e0, C0, H⟩ := H
 have A5 := zK C0
 clear C0
 by_cases c6 : e0 = true
 rotate_left
 · replace c6 := Bool.eq_false_iff.mpr c6
   subst c6
   rw [if_neg (show ¬ (false = true) by decide)] at H
   exact absurd H (by simp)
 subst c6
 rw [if_pos rfl] at H
 replace H := z6 H
 obtain ⟨⟨X, q⟩, D0, H⟩ := H
 replace H : ((laws_heldSlotS.f k q 1).bind fun x => (if x < 0 then (some false) else (if x = X then ((impl_FillSlots.f k M O).bind fun D => ((laws_eqSlotS.f k D u).bind fun U => (if U = true then ((laws_heldSlotS.f k q 1).bind fun y => (if y < 0 then (some false) else (if y = X then (some true) else (some false)))) else (some false)))) else (some false)))) = some true := H
 have A7 := zK D0
 clear D0
 replace H := z6 H
 obtain ⟨x, E0, H⟩ := H
 have A8 := zK E0
 clear E0
 by_cases c9 : x < 0
 · rw [if_pos c9] at H
   have G0 := z1 c9
   clear c9
   exact absurd H (by simp)
 rw [if_neg c9] at H
 have G0 := z2 c9
 clear c9
 by_cases b0 : x = X
 rotate_left
 · rw [if_neg b0] at H
   have q0 := beq_eq_false_iff_ne.mpr b0
   have s0 := bne_iff_ne.mpr b0
   exact absurd H (by simp)
 rw [if_pos b0] at H
 have q0 := beq_iff_eq.mpr b0
 have s0 := bne_eq_false_iff_eq.mpr b0
 clear b0
 replace H := z6 H
 obtain ⟨D, i0, H⟩ := H
 have O0 := zK i0
 clear i0
 replace H := z6 H
 obtain ⟨U, j0, H⟩ := H
 have R0 := zK j0
 clear j0
 by_cases f0 : U = true
 rotate_left
 · replace f0 := Bool.eq_false_iff.mpr f0
   subst f0
   rw [if_neg (show ¬ (false = true) by decide)] at H
   exact absurd H (by simp)
 subst f0
 rw [if_pos rfl] at H
 replace H := z6 H
 obtain ⟨y, l0, H⟩ := H
 have S0 := zK l0
 clear l0
 by_cases d0 : y < 0
 · rw [if_pos d0] at H
   have t0 := z1 d0
   clear d0
   exact absurd H (by simp)
 rw [if_neg d0] at H
 have t0 := z2 d0
 clear d0
 by_cases c0 : y = X
 rotate_left
 · rw [if_neg c0] at H
   have x0 := beq_eq_false_iff_ne.mpr c0
   have y0 := bne_iff_ne.mpr c0
   exact absurd H (by simp)
 rw [if_pos c0] at H
 have x0 := beq_iff_eq.mpr c0
 have y0 := bne_eq_false_iff_eq.mpr c0
 clear c0
 (first | exact absurd (z5 H) (by decide) | obtain rfl := z5 H | have H9 := z5 H)
 go_enter Try.func3, Try.ntmps3
 go_wp2_with (first | ((with_reducible refine gc 4 rfl ?_); refine zF 12 Try.func4 #[.int .i64 M, .int .i64 O] rfl zL ?_; (with_reducible refine (spec_FillSlots.calls k M O u _ A3.out).mono ?_); rintro e c1 ⟨v236, rfl, L, hb⟩; refine ⟨_, rfl, ?_⟩; have z := zK (Kd.R_lower L (zz zB)); have A := z8 hb; revert z A; clear HB; intro l HB) | ((with_reducible refine gc 5 rfl ?_); refine zF 15 Try.func5 #[.int .i64 M, .int .i64 O] rfl zL ?_; (with_reducible refine (impl_FillSlots.calls k M O o _ A4.out).mono ?_); rintro e d1 ⟨v239, rfl, L, hb⟩; refine ⟨_, rfl, ?_⟩; have z := zK (Kd.R_elder' (zkR l) (Kd.R_base L) hb); have A := zK (Kd.R_lower (Kd.R_new' L (Kd.R_lt (zkR l))) (zz zB)); have J := z8 hb; revert z A J; clear l HB; intro l a HB; obtain ⟨E, I, I0⟩ := Kd.R_slice a.out; subst I0; obtain ⟨m0, n0, J0⟩ := Kd.R_slice l.out; subst J0) | ((with_reducible refine gc 6 rfl ?_); refine zF 18 Try.func6 #[.slice E o.length I, .slice m0 u.length n0] rfl zL ?_; refine (laws_eqSlotS.calls k _ _ o _ _ u true _ (zC (Kd.R_reads' a.out).2.2) ((Kd.R_reads' a.out).2.1) (zC (Kd.R_reads' l.out).2.2) ((Kd.R_reads' l.out).2.1) A5.out).mono ?_; rintro e e1 ⟨rfl, hb⟩; refine ⟨_, rfl, ?_⟩; have z := zK (Kd.R_below (zkR l) hb); have A := zK (Kd.R_below (zkR a) hb); have J := z8 hb; revert z A J; clear l a HB; intro l a HB) | ((with_reducible refine gc 7 rfl ?_); refine zF 22 Try.func7 #[.slice E o.length I, .int .i64 1] rfl zL ?_; (with_reducible refine (laws_markSlotS.calls k (fun k_ => some k_ = (.slice E o.length I : Value).ownBlock) (.slice E o.length I) o 1 X q w _ ?side1 ?side2 A7.out).mono ?_); (case side1 => repeat (first | (with_reducible first | exact HB.out | apply zb | apply zw | apply ze) | exact HB.out)); (case side2 => exact Kd.R_tight rfl a.out); rintro e f1 ⟨rfl, F0, hb, hkp⟩; refine ⟨_, rfl, ?_⟩; have z := zK (Kd.R_mono (ok' := fun k_ => some k_ ≠ (.slice E o.length I : Value).ownBlock) (Kd.R_keptB (l.out) hkp (fun k_ hk_ hs_ => (hk_.2) hs_)) (fun k_ hk_ => hk_.1.2)); have A := zK (Kd.R_reok rfl F0 (fun k_ e_ => a.out.1 k_ e_)); have J := zK (hb); revert z A J; clear l a HB; intro l a HB; (try clear hkp); (try clear F0)) | ((with_reducible refine gc 8 rfl ?_); refine zF 25 Try.func8 #[.slice E q.length I, .int .i64 1] rfl (by (try simp only [List.map_toArray, List.map_cons, List.map_nil]); first | done | (rw [show q.length = o.length from (Kd.R_reads' a.out).1.symm] <;> rfl) | rfl | (simp only [List.length_drop, List.length_take]; rfl)) ?_; (with_reducible refine (laws_heldSlotS.calls k _ _ q 1 x _ ?side1 ?side2 A8.out).mono ?_); (case side1 => exact zC (Kd.R_reads' a.out).2.2); (case side2 => rw [show q.length = o.length from (Kd.R_reads' a.out).1.symm]; exact (Kd.R_reads' a.out).2.1); rintro e w' ⟨rfl, ⟨nd, rfl⟩⟩; refine ⟨_, rfl, ?_⟩) | ((with_reducible refine gc 5 rfl ?_); refine zF 33 Try.func5 #[.int .i64 M, .int .i64 O] rfl zL ?_; (with_reducible refine (impl_FillSlots.calls k M O D _ O0.out).mono ?_); rintro e g1 ⟨v246, rfl, L, hb⟩; refine ⟨_, rfl, ?_⟩; have z := zK (Kd.R_elder' (zkR l) (Kd.R_base L) hb); have A := zK (Kd.R_elder' (zkR a) (Kd.R_base L) hb); have J := zK (Kd.R_lower (Kd.R_new' (Kd.R_new' L (Kd.R_lt (zkR l))) (Kd.R_lt (zkR a))) (zz zB)); have o0 := z8 hb; revert z A J o0; clear l a HB; intro l a B HB; obtain ⟨L0, M0, N0⟩ := Kd.R_slice B.out; subst N0) | ((with_reducible refine gc 6 rfl ?_); refine zF 36 Try.func6 #[.slice L0 D.length M0, .slice m0 u.length n0] rfl zL ?_; refine (laws_eqSlotS.calls k _ _ D _ _ u true _ (zC (Kd.R_reads' B.out).2.2) ((Kd.R_reads' B.out).2.1) (zC (Kd.R_reads' l.out).2.2) ((Kd.R_reads' l.out).2.1) R0.out).mono ?_; rintro e i1 ⟨rfl, hb⟩; refine ⟨_, rfl, ?_⟩; have z := zK (Kd.R_below (zkR l) hb); have A := zK (Kd.R_below (zkR a) hb); have J := zK (Kd.R_below (zkR B) hb); have o0 := z8 hb; revert z A J o0; clear l a B HB; intro l a B HB) | ((with_reducible refine gc 8 rfl ?_); refine zF 40 Try.func8 #[.slice E q.length I, .int .i64 1] rfl (by (try simp only [List.map_toArray, List.map_cons, List.map_nil]); first | done | (rw [show q.length = o.length from (Kd.R_reads' a.out).1.symm] <;> rfl) | rfl | (simp only [List.length_drop, List.length_take]; rfl)) ?_; (with_reducible refine (laws_heldSlotS.calls k _ _ q 1 y _ ?side1 ?side2 S0.out).mono ?_); (case side1 => exact zC (Kd.R_reads' a.out).2.2); (case side2 => rw [show q.length = o.length from (Kd.R_reads' a.out).1.symm]; exact (Kd.R_reads' a.out).2.1); rintro e w' ⟨rfl, ⟨nd, rfl⟩⟩; refine ⟨_, rfl, ?_⟩))
 go_ret
 exact ⟨zE, zB⟩
/-- THE ONE PURE STATEMENT of laws_FnExactFillSlots: yours. -/
def laws_FnExactFillSlots.Pure : Prop := ∀ (a : Int) (l : Int), (Lit.int .i64 a).wf = true → (Lit.int .i64 l).wf = true → ∃ k, laws_FnExactFillSlots.f k a l = some true
theorem laws_FnExactFillSlots.walk (P : laws_FnExactFillSlots.Pure) (a : Int) (l : Int) (w : World) (w0 : (Lit.int .i64 a).wf = true) (w1 : (Lit.int .i64 l).wf = true) :
 Calls Try.prog 3 #[.int .i64 a, .int .i64 l] w fun e w' => e = .returned (.bool true) ∧ Below w.heap.size w w' := by
 obtain ⟨k, h⟩ := P a l w0 w1
 refine (laws_FnExactFillSlots.calls k a l true w h).mono ?_
 rintro e w' ⟨rfl, hd⟩
 exact ⟨rfl, hd⟩
end Go.Proofs.Ytiabkadcgmamaaa.PFnExactFillSlots
