-- Printed out of the translation by this session's own turned copy of a printer; Lean checks it.
import Derived.Test.YtiabkadcgmamaaaPFnExactFillSlotsx0
namespace Go.Proofs.Ytiabkadcgmamaaa.PFnExactFillSlots
open Go.RowKit Go.Proofs.YtiabkadcgmamaaaW.PrintWords Go.Proofs.YtiabkadcgmamaaaW.PrintLast Go.Proofs.YtiabkadcgmamaaaW.PrintMore
attribute [local go_sem] max2_int min2_int max_two min_two max_three min_three max_four min_four
set_option linter.unusedVariables false
set_option linter.unusedSimpArgs false
set_option maxHeartbeats 8000000
set_option maxRecDepth 100000
mutual
def spec_l19Sort.l0 : Nat → List (S29) → List (S29) → Int → Option ((List (S29)))
 | 0, _, _, _ => none
 | k + 1, l, a, o => if o < (l.length : Int) then (spec_l19Sort.l1 k l a o (a.length : Int)) else (some a)
def spec_l19Sort.l1 : Nat → List (S29) → List (S29) → Int → Int → Option ((List (S29)))
 | 0, _, _, _, _ => none
 | k + 1, l, q, a, o => if o > 0 then (if 0 ≤ (wrap64 (o - 1)) then (if (wrap64 (o - 1)) < (q.length : Int) then (if 0 ≤ a then (if a < (l.length : Int) then (if ((rd_T29 q (wrap64 (o - 1))).f0) > ((rd_T29 l a).f0) then (spec_l19Sort.l1 k l q a (wrap64 (o - 1))) else (if ((rd_T29 q (wrap64 (o - 1))).f0) = ((rd_T29 l a).f0) then (if ((rd_T29 q (wrap64 (o - 1))).f1) > ((rd_T29 l a).f1) then (spec_l19Sort.l1 k l q a (wrap64 (o - 1))) else ((some (([] : List (S29)) : List (S29))).bind fun u => (if 0 ≤ o then (if o ≤ (q.length : Int) then ((some (q.take (o : Int).toNat : List (S29))).bind fun x => (if u.length + x.length < 4398046511104 then ((some (u ++ x : List (S29))).bind fun y => ((some (([(⟨(rd_T29 l a).f0, (rd_T29 l a).f1, (rd_T29 l a).f2, (rd_T29 l a).f3⟩ : S29)] : List (S29)) : List (S29))).bind fun z => (if y.length + z.length < 4398046511104 then ((some (y ++ z : List (S29))).bind fun A => ((some (q.drop (o : Int).toNat : List (S29))).bind fun B => (if A.length + B.length < 4398046511104 then (spec_l19Sort.l0 k l (A ++ B) (wrap64 (a + 1))) else (none)))) else (none)))) else (none))) else (none)) else (none)))) else ((some (([] : List (S29)) : List (S29))).bind fun D => (if 0 ≤ o then (if o ≤ (q.length : Int) then ((some (q.take (o : Int).toNat : List (S29))).bind fun E => (if D.length + E.length < 4398046511104 then ((some (D ++ E : List (S29))).bind fun I => ((some (([(⟨(rd_T29 l a).f0, (rd_T29 l a).f1, (rd_T29 l a).f2, (rd_T29 l a).f3⟩ : S29)] : List (S29)) : List (S29))).bind fun J => (if I.length + J.length < 4398046511104 then ((some (I ++ J : List (S29))).bind fun L => ((some (q.drop (o : Int).toNat : List (S29))).bind fun M => (if L.length + M.length < 4398046511104 then (spec_l19Sort.l0 k l (L ++ M) (wrap64 (a + 1))) else (none)))) else (none)))) else (none))) else (none)) else (none))))) else (none)) else (none)) else (none)) else (none)) else ((some (([] : List (S29)) : List (S29))).bind fun O => (if 0 ≤ o then (if o ≤ (q.length : Int) then ((some (q.take (o : Int).toNat : List (S29))).bind fun T => (if O.length + T.length < 4398046511104 then ((some (O ++ T : List (S29))).bind fun U => (if 0 ≤ a then (if a < (l.length : Int) then ((some (([(⟨(rd_T29 l a).f0, (rd_T29 l a).f1, (rd_T29 l a).f2, (rd_T29 l a).f3⟩ : S29)] : List (S29)) : List (S29))).bind fun X => (if U.length + X.length < 4398046511104 then ((some (U ++ X : List (S29))).bind fun a0 => ((some (q.drop (o : Int).toNat : List (S29))).bind fun b0 => (if a0.length + b0.length < 4398046511104 then (spec_l19Sort.l0 k l (a0 ++ b0) (wrap64 (a + 1))) else (none)))) else (none))) else (none)) else (none))) else (none))) else (none)) else (none)))
end
def spec_l19Sort.f (k : Nat) (a : List (S29)) : Option ((List (S29))) := spec_l19Sort.l0 k a (([] : List (S29))) 0
def spec_l19Sort.T6 : Bool × List (List Nat × List Nat) := (true, [([], []), ([0], [0]), ([1], [1]), ([2], [2]), ([2], [2]), ([4, 2], [2, 4]), ([3, 5, 2], [2, 3, 5]), ([6, 2], [2, 6]), ([7, 2], [2, 7]), ([2], [2]), ([2], [2]), ([9, 10, 2], [2, 9, 10]), ([11, 2], [2, 11]), ([12, 2], [2, 12]), ([8, 13, 2], [2, 8, 13]), ([14, 2, 2], [2, 14]), ([15], [15]), ([15], [15]), ([17, 15], [15, 17]), ([16, 18, 15], [15, 16, 18]), ([19, 15], [15, 19]), ([20, 15], [15, 20]), ([15], [15]), ([15], [15]), ([22, 23, 15], [15, 22, 23]), ([24, 15], [15, 24]), ([25, 15], [15, 25]), ([21, 26, 15], [15, 21, 26]), ([27, 15, 15], [15, 27]), ([28], [28]), ([28], [28]), ([30, 28], [28, 30]), ([29, 31, 28], [28, 29, 31]), ([32, 28], [28, 32]), ([33, 28], [28, 33]), ([28], [28]), ([28], [28]), ([35, 36, 28], [28, 35, 36]), ([37, 28], [28, 37]), ([38, 28], [28, 38]), ([34, 39, 28], [28, 34, 39]), ([28, 40, 15], [15, 28, 40]), ([15, 41, 2], [2, 15, 41]), ([2, 42], [2, 42])])
def spec_l19Sort.B6 : List Nat := [0, 1, 3, 7, 7, 23, 63, 127, 255, 7, 7, 1543, 3591, 7687, 16383, 32767, 65535, 65535, 196607, 524287, 1048575, 2097151, 65535, 65535, 12648447, 29425663, 62980095, 134217727, 268435455, 536870911, 536870911, 1610612735, 4294967295, 8589934591, 17179869183, 536870911, 536870911, 103616086015, 241055039487, 515932946431, 1099511627775, 2199023255551, 4398046511103, 8796093022207]
theorem spec_l19Sort.tab6 : rtab .any (opsOf Try.f10 6) = spec_l19Sort.T6 := by kernel_rfl
theorem spec_l19Sort.bits6 : waitsOk spec_l19Sort.T6.2 spec_l19Sort.B6 = true := by kernel_rfl
def spec_l19Sort.T8 : Bool × List (List Nat × List Nat) := (true, [([], []), ([], []), ([], []), ([1, 2], [1, 2]), ([0, 3], [0, 3]), ([], []), ([], []), ([5, 6], [5, 6]), ([7], [7]), ([8], [8]), ([4, 9, 4], [4, 9]), ([], []), ([], []), ([11, 12], [11, 12]), ([10, 13, 10], [10, 13]), ([14, 14, 0, 1, 2, 3, 4, 5, 6, 7, 8, 9, 10, 11, 12, 13, 14], [1, 11, 14])])
def spec_l19Sort.B8 : List Nat := [0, 0, 0, 6, 15, 0, 0, 96, 224, 480, 1023, 0, 0, 6144, 16383, 32767]
theorem spec_l19Sort.tab8 : rtab .any (opsOf Try.f10 8) = spec_l19Sort.T8 := by kernel_rfl
theorem spec_l19Sort.bits8 : waitsOk spec_l19Sort.T8.2 spec_l19Sort.B8 = true := by kernel_rfl
theorem spec_l19Sort.calls (k) (A0) (c0) (q : List (S29)) (r : List (S29)) (w) (L7 : Kd.C k29 w A0 q.length q) (M7 : q.length ≤ c0) (h : spec_l19Sort.f k q = some r) :
 Calls Try.prog 10 #[.slice A0 q.length c0] w fun e w' => ∃ v0_ : Value, e = .returned (v0_) ∧ Kd.R k29 29 w' w.heap.size (fun _ => True) v0_ r ∧ Below w.heap.size w w' := by
 have n9 := Try.underlying29
 have R2 := zK L7
 have C9 := zK M7
 clear L7 M7
 have HB := zK (Below.refl w.heap.size w)
 have H : (spec_l19Sort.l0 k q (([] : List (S29))) 0) = some r := h
 clear h
 obtain ⟨R6, U3⟩ : ∃ y_ : List (S29), y_ = (([] : List (S29))) := ⟨_, rfl⟩
 replace H : (spec_l19Sort.l0 k q R6 0) = some r := by first | (rw [U3]; with_reducible exact H) | (have z := (Option.bind_some _ _).symm.trans H; rw [U3]; with_reducible exact z) | (have z := (Option.bind_some _ _).symm.trans H; with_reducible exact z) | with_reducible exact H | (rw [U3]; exact H) | exact H
 have Ny102 := zK U3
 clear U3
 have H' := zK H
 clear H
 go_enter Try.func10, Try.ntmps10
 go_wp2_with (first | ((with_reducible refine gd 6 rfl ?_); refine Kd.R_lit k29 _ 29 ?hg (N := 6) ?hd (xs := ([] : List (S29))) (inner := []) (ok := fun _ => True) (okp := fun _ => True) ?hr ?hp (fun _ hk => hk) trivial (Below.refl _ _) (Nat.le_refl _) (by simp) ?_; (case hd => rfl); (case hg => rfl); (case hr => first | (go_simp; done) | (go_simp; rfl)); (case hp => exact (Reps.none _ _)); intro v103 w2 A5 hb hg_ hnew_; clear hg_ hnew_; (first | rw [← Ny102.out] at A5 | (simp only [Int.reduceToNat] at A5; rw [← Ny102.out] at A5)); have A := zK (Kd.R_lower A5 (zz zB)); have B := z8 hb; revert A B; clear HB; intro t7 HB; clear hb A5))
 go_loopg [3, 4] k (fun kq v3 v4 w' => ∃ (o : List (S29)) (a : Int), v4 = .int .i64 a ∧ Aside0 (spec_l19Sort.l0 kq q o a = some r) ∧ Aside0 (kq ≤ k) ∧ Aside0 (Kd.R k29 29 w' w.heap.size (fun _ => True) v3 o) ∧ Aside0 (Below w.heap.size w w'))
 case atStart => exact ⟨(R6), (0), zR, H', ⟨Nat.le_refl _⟩, ⟨zkR t7⟩, ⟨zB⟩⟩
 clear H'
 try clear c1
 try clear p2
 obtain ⟨o, a, rfl, HA, D3, l, HB⟩ := hrel
 rcases gk with _ | k1
 · exact absurd HA.out (by simp [spec_l19Sort.l0])
 have H := HA.out
 clear HA
 simp only [spec_l19Sort.l0] at H
 by_cases c4 : a < (q.length : Int)
 rotate_left
 · rw [if_neg c4] at H
   have S6 := z2 c4
   clear c4
   obtain rfl := z5 H
   go_wp2
   go_ret
   exact ⟨_, zE, zkR l, zB⟩
 rw [if_pos c4] at H
 have S6 := z1 c4
 clear c4
 have H' := zK H
 clear H
 obtain ⟨g1, D, g8⟩ := Kd.R_slice l.out
 subst g8
 go_wp2
 go_loopg [5] k1 (fun kq v5 w' => ∃ (y : Int), v5 = .int .i64 y ∧ Aside0 (spec_l19Sort.l1 kq q o a y = some r) ∧ Aside0 (kq ≤ k1) ∧ Aside0 (Kd.R k29 29 w' w.heap.size (fun _ => True) (.slice g1 o.length D) o) ∧ Aside0 (Below w.heap.size w w'))
 case atStart => exact ⟨((o.length : Int)), zR, H', ⟨Nat.le_refl _⟩, ⟨zkR l⟩, ⟨zB⟩⟩
 clear H'
 try clear c1
 try clear p2
 try clear c4
 try clear S6
 try clear p2
 obtain ⟨y, rfl, HA, E3, l, HB⟩ := hrel
 rcases gk with _ | k2
 · exact absurd HA.out (by simp [spec_l19Sort.l1])
 have H := HA.out
 clear HA
 simp only [spec_l19Sort.l1] at H
 by_cases c6 : y > 0
 rotate_left
 · as_aux_lemma =>
   rw [if_neg c6] at H
   have S7 := z2 c6
   clear c6
   obtain ⟨O2, V3⟩ : ∃ y_ : List (S29), y_ = (([] : List (S29))) := ⟨_, rfl⟩
   replace H : (if 0 ≤ y then (if y ≤ (o.length : Int) then ((some (o.take (y : Int).toNat : List (S29))).bind fun i1 => (if O2.length + i1.length < 4398046511104 then ((some (O2 ++ i1 : List (S29))).bind fun B1 => (if 0 ≤ a then (if a < (q.length : Int) then ((some (([(⟨(rd_T29 q a).f0, (rd_T29 q a).f1, (rd_T29 q a).f2, (rd_T29 q a).f3⟩ : S29)] : List (S29)) : List (S29))).bind fun B0 => (if B1.length + B0.length < 4398046511104 then ((some (B1 ++ B0 : List (S29))).bind fun e1 => ((some (o.drop (y : Int).toNat : List (S29))).bind fun j0 => (if e1.length + j0.length < 4398046511104 then (spec_l19Sort.l0 k2 q (e1 ++ j0) (wrap64 (a + 1))) else (none)))) else (none))) else (none)) else (none))) else (none))) else (none)) else (none)) = some r := by first | (rw [V3]; with_reducible exact H) | (have z := (Option.bind_some _ _).symm.trans H; rw [V3]; with_reducible exact z) | (have z := (Option.bind_some _ _).symm.trans H; with_reducible exact z) | with_reducible exact H | (rw [V3]; exact H) | exact H
   have Ny159 := zK V3
   clear V3
   by_cases B5 : 0 ≤ y
   rotate_left
   · rw [if_neg B5] at H
     exact absurd H (by simp)
   rw [if_pos B5] at H
   have B8 := eq_true B5
   have C8 := z1 B5
   clear B5
   by_cases C5 : y ≤ (o.length : Int)
   rotate_left
   · rw [if_neg C5] at H
     exact absurd H (by simp)
   rw [if_pos C5] at H
   have D8 := eq_true C5
   have E8 := z1 C5
   clear C5
   obtain ⟨i1, X3⟩ : ∃ y_ : List (S29), y_ = (o.take (y : Int).toNat) := ⟨_, rfl⟩
   replace H : (if O2.length + i1.length < 4398046511104 then ((some (O2 ++ i1 : List (S29))).bind fun B1 => (if 0 ≤ a then (if a < (q.length : Int) then ((some (([(⟨(rd_T29 q a).f0, (rd_T29 q a).f1, (rd_T29 q a).f2, (rd_T29 q a).f3⟩ : S29)] : List (S29)) : List (S29))).bind fun B0 => (if B1.length + B0.length < 4398046511104 then ((some (B1 ++ B0 : List (S29))).bind fun e1 => ((some (o.drop (y : Int).toNat : List (S29))).bind fun j0 => (if e1.length + j0.length < 4398046511104 then (spec_l19Sort.l0 k2 q (e1 ++ j0) (wrap64 (a + 1))) else (none)))) else (none))) else (none)) else (none))) else (none)) = some r := by first | (rw [X3]; with_reducible exact H) | (have z := (Option.bind_some _ _).symm.trans H; rw [X3]; with_reducible exact z) | (have z := (Option.bind_some _ _).symm.trans H; with_reducible exact z) | with_reducible exact H | (rw [X3]; exact H) | exact H
   have Ny162 := zK X3
   clear X3
   by_cases j6 : O2.length + i1.length < 4398046511104
   rotate_left
   · rw [if_neg j6] at H
     exact absurd H (by simp)
   rw [if_pos j6] at H
   have LMc59 := zK j6
   clear j6
   obtain ⟨B1, a4⟩ : ∃ y_ : List (S29), y_ = (O2 ++ i1) := ⟨_, rfl⟩
   replace H : (if 0 ≤ a then (if a < (q.length : Int) then ((some (([(⟨(rd_T29 q a).f0, (rd_T29 q a).f1, (rd_T29 q a).f2, (rd_T29 q a).f3⟩ : S29)] : List (S29)) : List (S29))).bind fun B0 => (if B1.length + B0.length < 4398046511104 then ((some (B1 ++ B0 : List (S29))).bind fun e1 => ((some (o.drop (y : Int).toNat : List (S29))).bind fun j0 => (if e1.length + j0.length < 4398046511104 then (spec_l19Sort.l0 k2 q (e1 ++ j0) (wrap64 (a + 1))) else (none)))) else (none))) else (none)) else (none)) = some r := by first | (rw [a4]; with_reducible exact H) | (have z := (Option.bind_some _ _).symm.trans H; rw [a4]; with_reducible exact z) | (have z := (Option.bind_some _ _).symm.trans H; with_reducible exact z) | with_reducible exact H | (rw [a4]; exact H) | exact H
   have Ny166 := zK a4
   clear a4
   by_cases l6 : 0 ≤ a
   rotate_left
   · rw [if_neg l6] at H
     exact absurd H (by simp)
   rw [if_pos l6] at H
   have F8 := z1 l6
   clear l6
   by_cases m6 : a < (q.length : Int)
   rotate_left
   · rw [if_neg m6] at H
     exact absurd H (by simp)
   rw [if_pos m6] at H
   have G8 := z1 m6
   clear m6
   obtain ⟨B0, b4⟩ : ∃ y_ : List (S29), y_ = (([(⟨(rd_T29 q a).f0, (rd_T29 q a).f1, (rd_T29 q a).f2, (rd_T29 q a).f3⟩ : S29)] : List (S29))) := ⟨_, rfl⟩
   replace H : (if B1.length + B0.length < 4398046511104 then ((some (B1 ++ B0 : List (S29))).bind fun e1 => ((some (o.drop (y : Int).toNat : List (S29))).bind fun j0 => (if e1.length + j0.length < 4398046511104 then (spec_l19Sort.l0 k2 q (e1 ++ j0) (wrap64 (a + 1))) else (none)))) else (none)) = some r := by first | (rw [b4]; with_reducible exact H) | (have z := (Option.bind_some _ _).symm.trans H; rw [b4]; with_reducible exact z) | (have z := (Option.bind_some _ _).symm.trans H; with_reducible exact z) | with_reducible exact H | (rw [b4]; exact H) | exact H
   have Ny170 := zK b4
   clear b4
   by_cases n6 : B1.length + B0.length < 4398046511104
   rotate_left
   · rw [if_neg n6] at H
     exact absurd H (by simp)
   rw [if_pos n6] at H
   have LMc62 := zK n6
   clear n6
   obtain ⟨e1, d4⟩ : ∃ y_ : List (S29), y_ = (B1 ++ B0) := ⟨_, rfl⟩
   replace H : ((some (o.drop (y : Int).toNat : List (S29))).bind fun j0 => (if e1.length + j0.length < 4398046511104 then (spec_l19Sort.l0 k2 q (e1 ++ j0) (wrap64 (a + 1))) else (none))) = some r := by first | (rw [d4]; with_reducible exact H) | (have z := (Option.bind_some _ _).symm.trans H; rw [d4]; with_reducible exact z) | (have z := (Option.bind_some _ _).symm.trans H; with_reducible exact z) | with_reducible exact H | (rw [d4]; exact H) | exact H
   have Ny173 := zK d4
   clear d4
   have I8 := eq_true (z3 : 0 ≤ y)
   have J8 := eq_true (z3 : y ≤ (o.length : Int))
   obtain ⟨j0, e4⟩ : ∃ y_ : List (S29), y_ = (o.drop (y : Int).toNat) := ⟨_, rfl⟩
   replace H : (if e1.length + j0.length < 4398046511104 then (spec_l19Sort.l0 k2 q (e1 ++ j0) (wrap64 (a + 1))) else (none)) = some r := by first | (rw [e4]; with_reducible exact H) | (have z := (Option.bind_some _ _).symm.trans H; rw [e4]; with_reducible exact z) | (have z := (Option.bind_some _ _).symm.trans H; with_reducible exact z) | with_reducible exact H | (rw [e4]; exact H) | exact H
   have Ny176 := zK e4
   clear e4
   by_cases o6 : e1.length + j0.length < 4398046511104
   rotate_left
   · rw [if_neg o6] at H
     exact absurd H (by simp)
   rw [if_pos o6] at H
   have LMc65 := zK o6
   clear o6
   obtain ⟨T6, f4⟩ : ∃ y_ : List (S29), y_ = (e1 ++ j0) := ⟨_, rfl⟩
   replace H : (spec_l19Sort.l0 k2 q T6 (wrap64 (a + 1))) = some r := by first | (rw [f4]; with_reducible exact H) | (have z := (Option.bind_some _ _).symm.trans H; rw [f4]; with_reducible exact z) | (have z := (Option.bind_some _ _).symm.trans H; with_reducible exact z) | with_reducible exact H | (rw [f4]; exact H) | exact H
   have Ny180 := zK f4
   clear f4
   have H' := zK H
   clear H
   try go_wp2
   have A := zK (Kd.R_drew l.out)
   have B := zK (ze HB.out)
   revert A B
   clear l HB
   intro l HB
   refine start_ (n := 44) (S := fun w' => True) (ds := []) (bl 44 0) (by kernel_rfl) rfl (by kernel_rfl) trivial (fun hHeld => ?_); refine with_tabW spec_l19Sort.tab6 spec_l19Sort.bits6 (fun HT_ HW_ => ?_)
   generalize wr.drew = i8 at l HB hHeld ⊢
   refine zP 0 15 (bl 44 1) HT_ ?_
   refine zP 1 16 (bl 44 3) HT_ ?_
   refine zP 2 17 (bl 44 7) HT_ ?_
   refine zO 3 18 (bl 44 15) HT_ ?_
   refine zO 4 19 (bl 44 31) HT_ ?_
   refine zO 5 20 (bl 44 63) HT_ ?_
   refine zO 6 21 (bl 44 127) HT_ ?_
   refine zO 7 22 (bl 44 255) HT_ ?_
   refine zO 8 23 (bl 44 511) HT_ ?_
   refine zO 9 24 (bl 44 1023) HT_ ?_
   refine zO 10 25 (bl 44 2047) HT_ ?_
   refine zO 11 26 (bl 44 4095) HT_ ?_
   refine zO 12 27 (bl 44 8191) HT_ ?_
   refine zO 13 28 (bl 44 16383) HT_ ?_
   refine zO 14 29 (bl 44 32767) HT_ ?_
   refine zO 15 30 (bl 44 65535) HT_ ?_
   refine zO 16 31 (bl 44 131071) HT_ ?_
   refine zO 17 32 (bl 44 262143) HT_ ?_
   refine zO 18 33 (bl 44 524287) HT_ ?_
   refine zO 19 34 (bl 44 1048575) HT_ ?_
   refine zO 20 35 (bl 44 2097151) HT_ ?_
   refine zO 21 36 (bl 44 4194303) HT_ ?_
   refine zO 22 37 (bl 44 8388607) HT_ ?_
   refine zO 23 38 (bl 44 16777215) HT_ ?_
   refine zO 24 39 (bl 44 33554431) HT_ ?_
   refine zO 25 40 (bl 44 67108863) HT_ ?_
   refine zO 26 41 (bl 44 134217727) HT_ ?_
   refine zO 27 42 (bl 44 268435455) HT_ ?_
   refine zO 28 43 (bl 44 536870911) HT_ ?_
   refine zO 29 44 (bl 44 1073741823) HT_ ?_
   refine zO 30 45 (bl 44 2147483647) HT_ ?_
   refine zO 31 46 (bl 44 4294967295) HT_ ?_
   refine zO 32 47 (bl 44 8589934591) HT_ ?_
   refine zO 33 48 (bl 44 17179869183) HT_ ?_
   refine zO 34 49 (bl 44 34359738367) HT_ ?_
   refine zO 35 50 (bl 44 68719476735) HT_ ?_
   refine zO 36 51 (bl 44 137438953471) HT_ ?_
   refine zO 37 52 (bl 44 274877906943) HT_ ?_
   refine zO 38 53 (bl 44 549755813887) HT_ ?_
   refine zO 39 54 (bl 44 1099511627775) HT_ ?_
   refine zO 40 55 (bl 44 2199023255551) HT_ ?_
   refine zO 41 56 (bl 44 4398046511103) HT_ ?_
   refine zO 42 57 (bl 44 8796093022207) HT_ ?_
   refine zP 43 58 (bl 44 17592186044415) HT_ ?_
   refine done_ (done_of HT_.out (by kernel_rfl)) ?_
   try go_wp2
   have A := zK (Kd.R_drew l.out)
   have B := zK (ze HB.out)
   revert A B
   clear l HB
   intro l HB
   have U6 : (y : Int) ≤ ((o.length : Int) : Int) := z3
   obtain ⟨o9, p6, _, hsz68, _⟩ := info_parts info29
   have hroom68 : o.length ≤ D := (Kd.R_reads' l.out).2.1
   have hC68 : Kd.C k29 _ g1 o.length o := (Kd.R_reads' l.out).2.2
   have hcut68 := cut_to (P := Try.prog) 22 29 .i64 Try.underlying22 p6 g1 o.length D y (z3) U6 hroom68
   have L5 := Kd.C_take (m := (y : Int).toNat) hC68 (by omega)
   have M5 : i1.length = (y : Int).toNat := (by rw [Ny162.out, List.length_take]; omega)
   rw [← Ny162.out] at L5
   rw [← M5] at hcut68
   have J := zK L5
   have L8 := zK (show i1.length ≤ D from by omega)
   clear L5 hC68 hroom68 p6 hsz68
   have KY68 := zK M5
   clear M5
   have KL68 := zK (show (y : Int).toNat ≤ o.length from by omega)
   replace U6 := eq_true U6
   have N5 : 0 ≤ (a : Int) := z3
   have O5 : a < (q.length : Int) := z3
   obtain ⟨m0, T7, l3, m3, n3, o3⟩ := at_T29 R2.out a N5 O5
   have G0 := o3
   have I0 := n3
   have J0 := m3
   have L0 := l3
   cases T7
   (try replace l3 := zX HB l3)
   (try replace m3 := zX HB m3)
   (try replace n3 := zX HB n3)
   (try replace o3 := zX HB o3)
   replace N5 := eq_true N5
   replace O5 := eq_true O5
   refine start_ (n := 16) (S := fun w' => w'.cell? (m0.add ((a).toNat * 4)) = some (.int .i64 ((rd_T29 q a).f0)) ∧ w'.cell? ⟨(m0.add ((a).toNat * 4)).block, (m0.add ((a).toNat * 4)).off + 1, none⟩ = some (.int .i64 ((rd_T29 q a).f1)) ∧ w'.cell? ⟨(m0.add ((a).toNat * 4)).block, (m0.add ((a).toNat * 4)).off + 2, none⟩ = some (.int .i64 ((rd_T29 q a).f2)) ∧ w'.cell? ⟨(m0.add ((a).toNat * 4)).block, (m0.add ((a).toNat * 4)).off + 3, none⟩ = some (.bool ((rd_T29 q a).f3))) (ds := []) (bl 16 0) (by kernel_rfl) rfl (by kernel_rfl) ⟨(zX HB L0:), (zX HB J0:), (zX HB I0:), (zX HB G0:)⟩ (fun hHeld => ?_); refine with_tabW spec_l19Sort.tab8 spec_l19Sort.bits8 (fun HT_ HW_ => ?_)
   generalize i8.drew = D9 at l HB J l3 m3 n3 o3 hHeld ⊢
   refine zP 1 62 (bl 16 2) HT_ ?_
   refine zP 2 63 (bl 16 6) HT_ ?_
   refine zP 3 64 (bl 16 14) HT_ ?_
   refine zP 5 66 (bl 16 46) HT_ ?_
   refine zP 6 67 (bl 16 110) HT_ ?_
   refine zP 7 68 (bl 16 238) HT_ ?_
   refine zP 11 72 (bl 16 2286) HT_ ?_
   refine zP 12 73 (bl 16 6382) HT_ ?_
   refine zP 13 74 (bl 16 14574) HT_ ?_
   refine zT 8 69 (bl 16 14830) rfl rfl HT_ HW_ hHeld (by rintro w' ⟨s0, s1, s2, s3⟩; go_simp; with_reducible rfl) ?_
   refine join_ (σ := Value × Value × Value) 3 (bl 16 15359) (fun s_ => [(61, s_.1), (65, s_.2.1), (70, s_.2.2)]) (fun s_ w' => (w'.cell? (m0.add ((a).toNat * 4)) = some (.int .i64 ((rd_T29 q a).f0)) ∧ w'.cell? ⟨(m0.add ((a).toNat * 4)).block, (m0.add ((a).toNat * 4)).off + 1, none⟩ = some (.int .i64 ((rd_T29 q a).f1)) ∧ w'.cell? ⟨(m0.add ((a).toNat * 4)).block, (m0.add ((a).toNat * 4)).off + 2, none⟩ = some (.int .i64 ((rd_T29 q a).f2)) ∧ w'.cell? ⟨(m0.add ((a).toNat * 4)).block, (m0.add ((a).toNat * 4)).off + 3, none⟩ = some (.bool ((rd_T29 q a).f3))) ∧ (Kd.R k29 29 w' w.heap.size (fun k_ => some k_ ≠ (s_.2.2 : Value).ownBlock ∧ some k_ ≠ (.slice g1 o.length D : Value).ownBlock) s_.2.1 B1) ∧ (Kd.R k29 29 w' w.heap.size (fun k_ => some k_ ≠ (s_.2.1 : Value).ownBlock ∧ some k_ ≠ (.slice g1 o.length D : Value).ownBlock) s_.2.2 B0) ∧ (Kd.R k29 29 w' w.heap.size (fun k_ => some k_ ≠ (s_.2.1 : Value).ownBlock ∧ some k_ ≠ (s_.2.2 : Value).ownBlock) (.slice g1 o.length D) o) ∧ (Below w.heap.size w w')) ?_ ?_
   rotate_left
   · as_aux_lemma =>
     intro hCont
     refine two_ (i := 0) (j := 9) (Ni := some 61) (Nj := some 70) (bl 16 14831) (bl 16 15342) rfl rfl rfl rfl (two_of HT_.out (by kernel_rfl)) (by decide) (by decide) (fun K hK => ?_) (fun K hK => ?_)
     · as_aux_lemma =>
       skip
       refine Kd.R_lit_step k29 _ 29 ?hg (N := 61) ?hd (xs := ([] : List (S29))) (inner := []) (ok := fun _ => True) (okp := fun _ => True) ?hr ?hp (fun _ hk => hk) trivial (Below.refl _ _) (Nat.le_refl _) (by simp) ?_; (case hd => rfl); (case hg => rfl); (case hr => first | (go_simp; done) | (go_simp; rfl)); (case hp => exact (Reps.none _ _))
       intro v160 j8 U1 hb hg_ hnew_
       clear hg_ hnew_
       (first | rw [← Ny159.out] at U1 | (simp only [Int.reduceToNat] at U1; rw [← Ny159.out] at U1))
       have A := zK (Kd.R_elder' (zkR l) (Kd.R_base U1) hb)
       have B := zK (Kd.R_lower (Kd.R_new' U1 (Kd.R_lt (zkR l))) (zz zB))
       have E := zK (z4 (by repeat (first | (with_reducible exact J.out) | (with_reducible refine Kd.C_alloc ?_ _) | (with_reducible refine Kd.C_drewN ?_ _) | (with_reducible refine Kd.C_drew ?_) | exact J.out)) hb)
       have I := z8 hb
       revert A B E I
       clear l J HB
       intro l R1 J HB
       clear hb U1
       refine hK.out _ _ ⟨(zX HB L0:), (zX HB J0:), (zX HB I0:), (zX HB G0:)⟩ (fun hHeld => ?_)
       clear hK K
       refine zU 61 ?_
       refine two_ (i := 4) (j := 9) (Ni := some 65) (Nj := some 70) (bl 16 14847) (bl 16 15343) rfl rfl rfl rfl (two_of HT_.out (by kernel_rfl)) (by decide) (by decide) (fun K hK => ?_) (fun K hK => ?_)
       · as_aux_lemma =>
         skip
         refine Kd.R_append_rows_step k29 (w0 := w) w.heap.size (by rfl) (.tmp 61) (.tmp 64) 22 29 (.agg #[(.int .i64 0), (.int .i64 0), (.int .i64 0), (.bool false)]) 32 rfl Try.underlying22 info29 rfl (by decide) (by omega) v160 O2 i1 _ _ _ (fun k_ => some k_ ≠ (.slice g1 o.length D : Value).ownBlock) (fun _ => False) rfl rfl ?aO ?aR (fun _ _ h => h) (fun _ h => h.elim) ?aF ?aB ?aS ?aL ?_
         (case aR => repeat (first | exact (by repeat (first | (with_reducible exact J.out) | (with_reducible refine Kd.C_alloc ?_ _) | (with_reducible refine Kd.C_drewN ?_ _) | (with_reducible refine Kd.C_drew ?_) | exact J.out)) | (with_reducible refine Kd.C_alloc ?_ _) | (with_reducible refine Kd.C_drewN ?_ _) | (with_reducible refine Kd.C_drew ?_)))
         (case aB => exact zB)
         (case aF => exact (fun k_ hk => Kd.fresh' (Kd.R_lt (zkR l)) k_ hk))
         (case aO => exact (Kd.R_mono (zlR R1.out) (fun _ hk => hk.2)))
         (case aS => exact (zz zB))
         (case aL => have := LMc59.out; omega)
         intro v167 V6 ho hb hg hat
         rw [← Ny166.out] at ho
         have A := zK (Kd.R_after (ok := (fun _ => True)) (zkR l) hg hat)
         have B := zK (hb)
         have E := zK ((show Kd.C k29 V6 g1 i1.length i1 from by rw [Ny162.out]; exact Kd.C_take (m := (y : Int).toNat) ((Kd.R_reads' (Kd.R_after (ok := (fun _ => True)) (zkR l) hg hat)).2.2) KL68.out))
         have I := zK (ho)
         revert A B E I
         clear l HB J R1
         intro l HB J t1
         clear ho hb hg hat
         refine hK.out _ _ ⟨(zX HB L0:), (zX HB J0:), (zX HB I0:), (zX HB G0:)⟩ (fun hHeld => ?_)
         clear hK K
         refine zU 65 ?_
         refine one_ (i := 9) (N := some 70) (bl 16 15359) rfl rfl (one_of HT_.out (by kernel_rfl)) (by decide) (fun K hK => ?_)
         refine Kd.R_lit_step k29 _ 29 ?hg (N := 70) ?hd (xs := ([(⟨(rd_T29 q a).f0, (rd_T29 q a).f1, (rd_T29 q a).f2, (rd_T29 q a).f3⟩ : S29)] : List (S29))) (inner := [.int .i64 ((rd_T29 q a).f0), .int .i64 ((rd_T29 q a).f1), .int .i64 ((rd_T29 q a).f2), .bool ((rd_T29 q a).f3)]) (ok := fun _ => True) (okp := fun _ => True) ?hr ?hp (fun _ hk => hk) trivial (Below.refl _ _) (Nat.le_refl _) (by simp) ?_; (case hd => rfl); (case hg => rfl); (case hr => first | (go_simp; done) | (go_simp; rfl)); (case hp => exact (Reps.c4 (show Kd.M k29 _ _ _ (⟨(rd_T29 q a).f0, (rd_T29 q a).f1, (rd_T29 q a).f2, (rd_T29 q a).f3⟩ : S29) [.int .i64 ((rd_T29 q a).f0), .int .i64 ((rd_T29 q a).f1), .int .i64 ((rd_T29 q a).f2), .bool ((rd_T29 q a).f3)] from (k29_mkM _ _ _ (⟨(rd_T29 q a).f0, (rd_T29 q a).f1, (rd_T29 q a).f2, (rd_T29 q a).f3⟩ : S29) )) (Reps.none _ _)))
         intro v171 E9 F3 hb hg_ hnew_
         clear hg_ hnew_
         (first | rw [← Ny170.out] at F3 | (simp only [Int.reduceToNat] at F3; rw [← Ny170.out] at F3))
         have A := zK (Kd.R_elder' (zkR l) (Kd.R_base F3) hb)
         have B := zK (Kd.R_elder' (zkR t1) (Kd.R_base F3) hb)
         have E := zK (Kd.R_lower (Kd.R_new' (Kd.R_new' F3 (Kd.R_lt (zkR l))) (Kd.R_lt (zkR t1))) (zz zB))
         have I := zK (z4 (by repeat (first | (with_reducible exact J.out) | (with_reducible refine Kd.C_alloc ?_ _) | (with_reducible refine Kd.C_drewN ?_ _) | (with_reducible refine Kd.C_drew ?_) | exact J.out)) hb)
         have n0 := z8 hb
         revert A B E I n0
         clear l t1 J HB
         intro l t1 T J HB
         clear hb F3
         refine hK.out _ _ ⟨(zX HB L0:), (zX HB J0:), (zX HB I0:), (zX HB G0:)⟩ (fun hHeld => ?_)
         clear hK K
         refine zU 70 ?_
         exact norm_ (by simp only [putAll, Act.put, zq1, zq2, zq3]) (hCont (v160, v167, v171) _ ⟨hHeld, (Kd.R_mono (zlR t1.out) (fun _ hk => ⟨hk.2, hk.1⟩)), (Kd.R_mono (zlR T.out) (fun _ hk => ⟨hk.2, hk.1.2⟩)), (Kd.R_mono (zlR l.out) (fun _ hk => ⟨hk.1.2, hk.2⟩)), zB⟩)
       · as_aux_lemma =>
         skip
         refine Kd.R_lit_step k29 _ 29 ?hg (N := 70) ?hd (xs := ([(⟨(rd_T29 q a).f0, (rd_T29 q a).f1, (rd_T29 q a).f2, (rd_T29 q a).f3⟩ : S29)] : List (S29))) (inner := [.int .i64 ((rd_T29 q a).f0), .int .i64 ((rd_T29 q a).f1), .int .i64 ((rd_T29 q a).f2), .bool ((rd_T29 q a).f3)]) (ok := fun _ => True) (okp := fun _ => True) ?hr ?hp (fun _ hk => hk) trivial (Below.refl _ _) (Nat.le_refl _) (by simp) ?_; (case hd => rfl); (case hg => rfl); (case hr => first | (go_simp; done) | (go_simp; rfl)); (case hp => exact (Reps.c4 (show Kd.M k29 _ _ _ (⟨(rd_T29 q a).f0, (rd_T29 q a).f1, (rd_T29 q a).f2, (rd_T29 q a).f3⟩ : S29) [.int .i64 ((rd_T29 q a).f0), .int .i64 ((rd_T29 q a).f1), .int .i64 ((rd_T29 q a).f2), .bool ((rd_T29 q a).f3)] from (k29_mkM _ _ _ (⟨(rd_T29 q a).f0, (rd_T29 q a).f1, (rd_T29 q a).f2, (rd_T29 q a).f3⟩ : S29) )) (Reps.none _ _)))
         intro v171 V6 C1 hb hg_ hnew_
         clear hg_ hnew_
         (first | rw [← Ny170.out] at C1 | (simp only [Int.reduceToNat] at C1; rw [← Ny170.out] at C1))
         have A := zK (Kd.R_elder' (zkR l) (Kd.R_base C1) hb)
         have B := zK (Kd.R_elder' (zkR R1) (Kd.R_base C1) hb)
         have E := zK (Kd.R_lower (Kd.R_new' (Kd.R_new' C1 (Kd.R_lt (zkR l))) (Kd.R_lt (zkR R1))) (zz zB))
         have I := zK (z4 (by repeat (first | (with_reducible exact J.out) | (with_reducible refine Kd.C_alloc ?_ _) | (with_reducible refine Kd.C_drewN ?_ _) | (with_reducible refine Kd.C_drew ?_) | exact J.out)) hb)
         have n0 := z8 hb
         revert A B E I n0
         clear l R1 J HB
         intro l R1 T J HB
         clear hb C1
         refine hK.out _ _ ⟨(zX HB L0:), (zX HB J0:), (zX HB I0:), (zX HB G0:)⟩ (fun hHeld => ?_)
         clear hK K
         refine zU 70 ?_
         refine one_ (i := 4) (N := some 65) (bl 16 15359) rfl rfl (one_of HT_.out (by kernel_rfl)) (by decide) (fun K hK => ?_)
         refine Kd.R_append_rows_step k29 (w0 := w) w.heap.size (by rfl) (.tmp 61) (.tmp 64) 22 29 (.agg #[(.int .i64 0), (.int .i64 0), (.int .i64 0), (.bool false)]) 32 rfl Try.underlying22 info29 rfl (by decide) (by omega) v160 O2 i1 _ _ _ (fun k_ => some k_ ≠ (.slice g1 o.length D : Value).ownBlock ∧ some k_ ≠ (v171 : Value).ownBlock) (fun _ => False) rfl rfl ?aO ?aR (fun _ _ h => h) (fun _ h => h.elim) ?aF ?aB ?aS ?aL ?_
         (case aR => repeat (first | exact (by repeat (first | (with_reducible exact J.out) | (with_reducible refine Kd.C_alloc ?_ _) | (with_reducible refine Kd.C_drewN ?_ _) | (with_reducible refine Kd.C_drew ?_) | exact J.out)) | (with_reducible refine Kd.C_alloc ?_ _) | (with_reducible refine Kd.C_drewN ?_ _) | (with_reducible refine Kd.C_drew ?_)))
         (case aB => exact zB)
         (case aF => exact (fun k_ hk => ⟨Kd.fresh' (Kd.R_lt (zkR l)) k_ hk, Kd.fresh' (Kd.R_lt (zkR T)) k_ hk⟩))
         (case aO => exact (Kd.R_mono (zlR R1.out) (fun _ hk => ⟨hk.1.2, hk.2⟩)))
         (case aS => exact (zz zB))
         (case aL => have := LMc59.out; omega)
         intro v167 X6 ho hb hg hat
         rw [← Ny166.out] at ho
         have A := zK (Kd.R_after (ok := (fun k_ => some k_ ≠ (v171 : Value).ownBlock)) (Kd.R_mono (zlR l.out) (fun _ hk => ⟨hk.2, hk.1.2⟩)) hg hat)
         have B := zK (Kd.R_after (ok := (fun k_ => some k_ ≠ (.slice g1 o.length D : Value).ownBlock)) (Kd.R_mono (zlR T.out) (fun _ hk => ⟨hk.1.2, hk.2⟩)) hg hat)
         have E := zK (hb)
         have I := zK ((show Kd.C k29 X6 g1 i1.length i1 from by rw [Ny162.out]; exact Kd.C_take (m := (y : Int).toNat) ((Kd.R_reads' (Kd.R_after (ok := (fun k_ => some k_ ≠ (v171 : Value).ownBlock)) (Kd.R_mono (zlR l.out) (fun _ hk => ⟨hk.2, hk.1.2⟩)) hg hat)).2.2) KL68.out))
         have n0 := zK (ho)
         revert A B E I n0
         clear l T HB J R1
         intro l T HB J t1
         clear ho hb hg hat
         refine hK.out _ _ ⟨(zX HB L0:), (zX HB J0:), (zX HB I0:), (zX HB G0:)⟩ (fun hHeld => ?_)
         clear hK K
         refine zU 65 ?_
         exact norm_ (by simp only [putAll, Act.put, zq1, zq2, zq3]) (hCont (v160, v167, v171) _ ⟨hHeld, (Kd.R_mono (zlR t1.out) (fun _ hk => ⟨hk.2, hk.1⟩)), (Kd.R_mono (zlR T.out) (fun _ hk => ⟨hk.2, hk.1⟩)), (Kd.R_mono (zlR l.out) (fun _ hk => ⟨hk.2, hk.1⟩)), zB⟩)
     · as_aux_lemma =>
       skip
       refine Kd.R_lit_step k29 _ 29 ?hg (N := 70) ?hd (xs := ([(⟨(rd_T29 q a).f0, (rd_T29 q a).f1, (rd_T29 q a).f2, (rd_T29 q a).f3⟩ : S29)] : List (S29))) (inner := [.int .i64 ((rd_T29 q a).f0), .int .i64 ((rd_T29 q a).f1), .int .i64 ((rd_T29 q a).f2), .bool ((rd_T29 q a).f3)]) (ok := fun _ => True) (okp := fun _ => True) ?hr ?hp (fun _ hk => hk) trivial (Below.refl _ _) (Nat.le_refl _) (by simp) ?_; (case hd => rfl); (case hg => rfl); (case hr => first | (go_simp; done) | (go_simp; rfl)); (case hp => exact (Reps.c4 (show Kd.M k29 _ _ _ (⟨(rd_T29 q a).f0, (rd_T29 q a).f1, (rd_T29 q a).f2, (rd_T29 q a).f3⟩ : S29) [.int .i64 ((rd_T29 q a).f0), .int .i64 ((rd_T29 q a).f1), .int .i64 ((rd_T29 q a).f2), .bool ((rd_T29 q a).f3)] from (k29_mkM _ _ _ (⟨(rd_T29 q a).f0, (rd_T29 q a).f1, (rd_T29 q a).f2, (rd_T29 q a).f3⟩ : S29) )) (Reps.none _ _)))
       intro v171 j8 U1 hb hg_ hnew_
       clear hg_ hnew_
       (first | rw [← Ny170.out] at U1 | (simp only [Int.reduceToNat] at U1; rw [← Ny170.out] at U1))
       have A := zK (Kd.R_elder' (zkR l) (Kd.R_base U1) hb)
       have B := zK (Kd.R_lower (Kd.R_new' U1 (Kd.R_lt (zkR l))) (zz zB))
       have E := zK (z4 (by repeat (first | (with_reducible exact J.out) | (with_reducible refine Kd.C_alloc ?_ _) | (with_reducible refine Kd.C_drewN ?_ _) | (with_reducible refine Kd.C_drew ?_) | exact J.out)) hb)
       have I := z8 hb
       revert A B E I
       clear l J HB
       intro l T J HB
       clear hb U1
       refine hK.out _ _ ⟨(zX HB L0:), (zX HB J0:), (zX HB I0:), (zX HB G0:)⟩ (fun hHeld => ?_)
       clear hK K
       refine zU 70 ?_
       refine one_ (i := 0) (N := some 61) (bl 16 15343) rfl rfl (one_of HT_.out (by kernel_rfl)) (by decide) (fun K hK => ?_)
       refine Kd.R_lit_step k29 _ 29 ?hg (N := 61) ?hd (xs := ([] : List (S29))) (inner := []) (ok := fun _ => True) (okp := fun _ => True) ?hr ?hp (fun _ hk => hk) trivial (Below.refl _ _) (Nat.le_refl _) (by simp) ?_; (case hd => rfl); (case hg => rfl); (case hr => first | (go_simp; done) | (go_simp; rfl)); (case hp => exact (Reps.none _ _))
       intro v160 V6 C1 hb hg_ hnew_
       clear hg_ hnew_
       (first | rw [← Ny159.out] at C1 | (simp only [Int.reduceToNat] at C1; rw [← Ny159.out] at C1))
       have A := zK (Kd.R_elder' (zkR l) (Kd.R_base C1) hb)
       have B := zK (Kd.R_elder' (zkR T) (Kd.R_base C1) hb)
       have E := zK (Kd.R_lower (Kd.R_new' (Kd.R_new' C1 (Kd.R_lt (zkR l))) (Kd.R_lt (zkR T))) (zz zB))
       have I := zK (z4 (by repeat (first | (with_reducible exact J.out) | (with_reducible refine Kd.C_alloc ?_ _) | (with_reducible refine Kd.C_drewN ?_ _) | (with_reducible refine Kd.C_drew ?_) | exact J.out)) hb)
       have n0 := z8 hb
       revert A B E I n0
       clear l T J HB
       intro l T R1 J HB
       clear hb C1
       refine hK.out _ _ ⟨(zX HB L0:), (zX HB J0:), (zX HB I0:), (zX HB G0:)⟩ (fun hHeld => ?_)
       clear hK K
       refine zU 61 ?_
       refine one_ (i := 4) (N := some 65) (bl 16 15359) rfl rfl (one_of HT_.out (by kernel_rfl)) (by decide) (fun K hK => ?_)
       refine Kd.R_append_rows_step k29 (w0 := w) w.heap.size (by rfl) (.tmp 61) (.tmp 64) 22 29 (.agg #[(.int .i64 0), (.int .i64 0), (.int .i64 0), (.bool false)]) 32 rfl Try.underlying22 info29 rfl (by decide) (by omega) v160 O2 i1 _ _ _ (fun k_ => some k_ ≠ (.slice g1 o.length D : Value).ownBlock ∧ some k_ ≠ (v171 : Value).ownBlock) (fun _ => False) rfl rfl ?aO ?aR (fun _ _ h => h) (fun _ h => h.elim) ?aF ?aB ?aS ?aL ?_
       (case aR => repeat (first | exact (by repeat (first | (with_reducible exact J.out) | (with_reducible refine Kd.C_alloc ?_ _) | (with_reducible refine Kd.C_drewN ?_ _) | (with_reducible refine Kd.C_drew ?_) | exact J.out)) | (with_reducible refine Kd.C_alloc ?_ _) | (with_reducible refine Kd.C_drewN ?_ _) | (with_reducible refine Kd.C_drew ?_)))
       (case aB => exact zB)
       (case aF => exact (fun k_ hk => ⟨Kd.fresh' (Kd.R_lt (zkR l)) k_ hk, Kd.fresh' (Kd.R_lt (zkR T)) k_ hk⟩))
       (case aO => exact (Kd.R_mono (zlR R1.out) (fun _ hk => ⟨hk.1.2, hk.2⟩)))
       (case aS => exact (zz zB))
       (case aL => have := LMc59.out; omega)
       intro v167 X6 ho hb hg hat
       rw [← Ny166.out] at ho
       have A := zK (Kd.R_after (ok := (fun k_ => some k_ ≠ (v171 : Value).ownBlock)) (Kd.R_mono (zlR l.out) (fun _ hk => ⟨hk.1.2, hk.2⟩)) hg hat)
       have B := zK (Kd.R_after (ok := (fun k_ => some k_ ≠ (.slice g1 o.length D : Value).ownBlock)) (Kd.R_mono (zlR T.out) (fun _ hk => ⟨hk.1.2, hk.2⟩)) hg hat)
       have E := zK (hb)
       have I := zK ((show Kd.C k29 X6 g1 i1.length i1 from by rw [Ny162.out]; exact Kd.C_take (m := (y : Int).toNat) ((Kd.R_reads' (Kd.R_after (ok := (fun k_ => some k_ ≠ (v171 : Value).ownBlock)) (Kd.R_mono (zlR l.out) (fun _ hk => ⟨hk.1.2, hk.2⟩)) hg hat)).2.2) KL68.out))
       have n0 := zK (ho)
       revert A B E I n0
       clear l T HB J R1
       intro l T HB J t1
       clear ho hb hg hat
       refine hK.out _ _ ⟨(zX HB L0:), (zX HB J0:), (zX HB I0:), (zX HB G0:)⟩ (fun hHeld => ?_)
       clear hK K
       refine zU 65 ?_
       exact norm_ (by simp only [putAll, Act.put, zq1, zq2, zq3]) (hCont (v160, v167, v171) _ ⟨hHeld, (Kd.R_mono (zlR t1.out) (fun _ hk => ⟨hk.2, hk.1⟩)), (Kd.R_mono (zlR T.out) (fun _ hk => ⟨hk.2, hk.1⟩)), (Kd.R_mono (zlR l.out) (fun _ hk => ⟨hk.2, hk.1⟩)), zB⟩)
   rintro ⟨v160, v167, v171⟩ S4 ⟨hS_, T4, U4, V4, X4⟩
   have A : Aside0 (Kd.R k29 29 S4 w.heap.size (fun k_ => some k_ ≠ (v171 : Value).ownBlock ∧ some k_ ≠ (.slice g1 o.length D : Value).ownBlock) v167 B1) := ⟨T4⟩
   have B : Aside0 (Kd.R k29 29 S4 w.heap.size (fun k_ => some k_ ≠ (v167 : Value).ownBlock ∧ some k_ ≠ (.slice g1 o.length D : Value).ownBlock) v171 B0) := ⟨U4⟩
   have E : Aside0 (Kd.R k29 29 S4 w.heap.size (fun k_ => some k_ ≠ (v167 : Value).ownBlock ∧ some k_ ≠ (v171 : Value).ownBlock) (.slice g1 o.length D) o) := ⟨V4⟩
   have I : Aside0 (Below w.heap.size w S4) := ⟨X4⟩
   clear l
   clear HB
   clear T4 U4 V4 X4
   revert A B E I
   intro t1 T l HB
   have hHeld : S4.cell? (m0.add ((a).toNat * 4)) = some (.int .i64 ((rd_T29 q a).f0)) ∧ S4.cell? ⟨(m0.add ((a).toNat * 4)).block, (m0.add ((a).toNat * 4)).off + 1, none⟩ = some (.int .i64 ((rd_T29 q a).f1)) ∧ S4.cell? ⟨(m0.add ((a).toNat * 4)).block, (m0.add ((a).toNat * 4)).off + 2, none⟩ = some (.int .i64 ((rd_T29 q a).f2)) ∧ S4.cell? ⟨(m0.add ((a).toNat * 4)).block, (m0.add ((a).toNat * 4)).off + 3, none⟩ = some (.bool ((rd_T29 q a).f3)) := hS_
   obtain ⟨E4, F4, a7⟩ := Kd.R_slice T.out
   (first | subst a7 | (injection a7 with f1_ f2_ f3_; have f4_ := f1_.symm; have f5_ := f3_.symm; clear f1_ f2_ f3_; subst f4_; subst f5_))
   refine norm_ (a' := ?_) ?_ ?_
   rotate_left
   · simp only [putAll, Act.put, zq1, zq2, zq3]
     rfl
   refine one_ (i := 10) (N := some 71) (bl 16 16383) rfl rfl (one_of HT_.out (by kernel_rfl)) (by decide) (fun K hK => ?_)
   refine Kd.R_append_rows_step k29 (w0 := w) w.heap.size (by rfl) (.tmp 65) (.tmp 70) 22 29 (.agg #[(.int .i64 0), (.int .i64 0), (.int .i64 0), (.bool false)]) 32 rfl Try.underlying22 info29 rfl (by decide) (by omega) v167 B1 B0 _ _ _ (fun k_ => some k_ ≠ (.slice g1 o.length D : Value).ownBlock ∧ some k_ ≠ (.slice E4 B0.length F4 : Value).ownBlock) (fun _ => False) rfl rfl ?aO ?aR (fun _ _ h => h) (fun _ h => h.elim) ?aF ?aB ?aS ?aL ?_
   (case aR => exact zC (Kd.R_reads' T.out).2.2)
   (case aB => exact zB)
   (case aF => exact (fun k_ hk => ⟨Kd.fresh' (Kd.R_lt (zkR l)) k_ hk, Kd.fresh' (Kd.R_lt (zkR T)) k_ hk⟩))
   (case aO => exact (Kd.R_mono (zlR t1.out) (fun _ hk => ⟨hk.2, hk.1⟩)))
   (case aS => exact (zz zB))
   (case aL => have := LMc62.out; omega)
   intro v174 F9 ho hb hg hat
   rw [← Ny173.out] at ho
   have A := zK (Kd.R_after (ok := (fun k_ => some k_ ≠ (.slice E4 B0.length F4 : Value).ownBlock)) (Kd.R_mono (zlR l.out) (fun _ hk => ⟨hk.2, hk.1⟩)) hg hat)
   have B := zK (Kd.R_after (ok := (fun k_ => some k_ ≠ (.slice g1 o.length D : Value).ownBlock)) (Kd.R_mono (zlR T.out) (fun _ hk => ⟨hk.2, hk.1⟩)) hg hat)
   have E := zK (hb)
   have I := zK (ho)
   revert A B E I
   clear l T HB t1
   intro l T HB q6
   clear ho hb hg hat
   have b7 : (y : Int) ≤ ((o.length : Int) : Int) := z3
   obtain ⟨p9, t6, _, hsz77, _⟩ := info_parts info29
   have hroom77 : o.length ≤ D := (Kd.R_reads' l.out).2.1
   have hC77 : Kd.C k29 _ g1 o.length o := (Kd.R_reads' l.out).2.2
   have U7 : (0 : Int) ≤ (y : Int) := z3
   have hcut77 := cut_from (P := Try.prog) 22 29 .i64 Try.underlying22 t6 4 hsz77 g1 o.length D y U7 b7
   have f5 := Kd.C_drop (m := (y : Int).toNat) (c := D) hC77 (by omega) hroom77
   obtain ⟨N7, hA77⟩ : ∃ A1, A1 = (if D = (y : Int).toNat then g1 else (g1 : Option Addr).map (·.add ((y : Int).toNat * 4))) := ⟨_, rfl⟩
   obtain ⟨l8, R5⟩ : ∃ c1, c1 = D - (y : Int).toNat := ⟨_, rfl⟩
   have p5 : j0.length = o.length - (y : Int).toNat := (by rw [Ny176.out, List.length_drop] <;> omega)
   rw [show (o).drop (y : Int).toNat = j0 from Ny176.out.symm] at f5
   replace f5 : Kd.C k29 _ N7 j0.length j0 := (by rw [hA77]; exact f5)
   rw [← p5, ← hA77, ← R5] at hcut77
   have c5 := zK f5
   have M8 := zK (show j0.length ≤ l8 from by rw [p5, R5]; exact Nat.sub_le_sub_right hroom77 _)
   clear f5 hC77 hroom77 t6 hsz77 R5
   have KY77 := zK p5
   have KA77 := zK hA77
   clear p5 hA77
   have KL77 := zK (show (y : Int).toNat ≤ o.length from by omega)
   replace b7 := eq_true b7
   refine hK.out _ _ ⟨(zX HB L0:), (zX HB J0:), (zX HB I0:), (zX HB G0:)⟩ (fun hHeld => ?_)
   clear hK K
   refine zU 71 ?_
   refine one_ (i := 14) (N := some 75) (bl 16 32767) rfl rfl (one_of HT_.out (by kernel_rfl)) (by decide) (fun K hK => ?_)
   refine Kd.R_append_rows_step k29 (w0 := w) w.heap.size (by rfl) (.tmp 71) (.tmp 74) 22 29 (.agg #[(.int .i64 0), (.int .i64 0), (.int .i64 0), (.bool false)]) 32 rfl Try.underlying22 info29 rfl (by decide) (by omega) v174 e1 j0 _ _ _ (fun k_ => some k_ ≠ (.slice g1 o.length D : Value).ownBlock ∧ some k_ ≠ (.slice E4 B0.length F4 : Value).ownBlock) (fun _ => False) rfl rfl ?aO ?aR (fun _ _ h => h) (fun _ h => h.elim) ?aF ?aB ?aS ?aL ?_
   (case aR => have e_ := c5.out; rw [KA77.out, KY77.out] at e_; exact e_)
   (case aB => exact zB)
   (case aF => exact (fun k_ hk => ⟨Kd.fresh' (Kd.R_lt (zkR l)) k_ hk, Kd.fresh' (Kd.R_lt (zkR T)) k_ hk⟩))
   (case aO => exact (zkR q6))
   (case aS => exact (zz zB))
   (case aL => have := LMc65.out; have := KY77.out; omega)
   intro v181 m8 ho hb hg hat
   rw [← Ny180.out] at ho
   have A := zK (Kd.R_after (ok := (fun k_ => some k_ ≠ (.slice E4 B0.length F4 : Value).ownBlock)) (zkR l) hg hat)
   have B := zK (Kd.R_after (ok := (fun k_ => some k_ ≠ (.slice g1 o.length D : Value).ownBlock)) (zkR T) hg hat)
   have E := zK (hb)
   have I := zK ((show Kd.C k29 m8 N7 j0.length j0 from by rw [Ny176.out, KA77.out]; exact Kd.C_drop (m := (y : Int).toNat) (c := D) ((Kd.R_reads' (Kd.R_after (ok := (fun k_ => some k_ ≠ (.slice E4 B0.length F4 : Value).ownBlock)) (zkR l) hg hat)).2.2) KL77.out ((Kd.R_reads' (Kd.R_after (ok := (fun k_ => some k_ ≠ (.slice E4 B0.length F4 : Value).ownBlock)) (zkR l) hg hat)).2.1)))
   have n0 := zK (ho)
   revert A B E I n0
   clear l T HB c5 q6
   intro l T HB c5 x7
   clear ho hb hg hat
   refine hK.out _ _ ⟨(zX HB L0:), (zX HB J0:), (zX HB I0:), (zX HB G0:)⟩ (fun hHeld => ?_)
   clear hK K
   refine zU 75 ?_
   refine zP 15 3 (bl 16 65535) HT_ ?_
   refine done_ (done_of HT_.out (by kernel_rfl)) ?_
   try go_wp2
   all_goals (go_roundg k2; (case measure => have := D3.out; have := E3.out; omega); (case rel => exact ⟨(T6), (wrap64 (a + 1)), zR, H', ⟨by have := D3.out; have := E3.out; omega⟩, ⟨Kd.R_mono (zlR x7.out) (fun _ hk => trivial)⟩, ⟨zB⟩⟩))
 rw [if_pos c6] at H
 have S7 := z1 c6
 clear c6
 obtain ⟨ji7, hji7⟩ : ∃ j_ : Int, (wrap64 (y - 1)) = j_ := ⟨_, rfl⟩
 replace H : (if 0 ≤ (ji7) then (if (ji7) < (o.length : Int) then (if 0 ≤ a then (if a < (q.length : Int) then (if ((rd_T29 o (ji7)).f0) > ((rd_T29 q a).f0) then (spec_l19Sort.l1 k2 q o a ji7) else (if ((rd_T29 o (ji7)).f0) = ((rd_T29 q a).f0) then (if ((rd_T29 o (ji7)).f1) > ((rd_T29 q a).f1) then (spec_l19Sort.l1 k2 q o a ji7) else ((some (([] : List (S29)) : List (S29))).bind fun e2 => (if 0 ≤ y then (if y ≤ (o.length : Int) then ((some (o.take (y : Int).toNat : List (S29))).bind fun E0 => (if e2.length + E0.length < 4398046511104 then ((some (e2 ++ E0 : List (S29))).bind fun j1 => ((some (([(⟨(rd_T29 q a).f0, (rd_T29 q a).f1, (rd_T29 q a).f2, (rd_T29 q a).f3⟩ : S29)] : List (S29)) : List (S29))).bind fun x0 => (if j1.length + x0.length < 4398046511104 then ((some (j1 ++ x0 : List (S29))).bind fun C0 => ((some (o.drop (y : Int).toNat : List (S29))).bind fun g0 => (if C0.length + g0.length < 4398046511104 then (spec_l19Sort.l0 k2 q (C0 ++ g0) (wrap64 (a + 1))) else (none)))) else (none)))) else (none))) else (none)) else (none)))) else ((some (([] : List (S29)) : List (S29))).bind fun g2 => (if 0 ≤ y then (if y ≤ (o.length : Int) then ((some (o.take (y : Int).toNat : List (S29))).bind fun F0 => (if g2.length + F0.length < 4398046511104 then ((some (g2 ++ F0 : List (S29))).bind fun m1 => ((some (([(⟨(rd_T29 q a).f0, (rd_T29 q a).f1, (rd_T29 q a).f2, (rd_T29 q a).f3⟩ : S29)] : List (S29)) : List (S29))).bind fun y0 => (if m1.length + y0.length < 4398046511104 then ((some (m1 ++ y0 : List (S29))).bind fun D0 => ((some (o.drop (y : Int).toNat : List (S29))).bind fun i0 => (if D0.length + i0.length < 4398046511104 then (spec_l19Sort.l0 k2 q (D0 ++ i0) (wrap64 (a + 1))) else (none)))) else (none)))) else (none))) else (none)) else (none))))) else (none)) else (none)) else (none)) else (none)) = some r := by first | (rw [hji7] at H; exact H) | (simp only [hji7] at H ⊢; exact H)
 have hji7w : (IntKind.i64.wrap (y - 1)) = ji7 := (i64_w _).trans hji7
 by_cases c8 : 0 ≤ (ji7)
 rotate_left
 · rw [if_neg c8] at H
   exact absurd H (by simp)
 rw [if_pos c8] at H
 have q9 := z1 c8
 clear c8
 by_cases c9 : (ji7) < (o.length : Int)
 rotate_left
 · rw [if_neg c9] at H
   exact absurd H (by simp)
 rw [if_pos c9] at H
 have t9 := z1 c9
 clear c9
 by_cases x6 : 0 ≤ a
 rotate_left
 · rw [if_neg x6] at H
   exact absurd H (by simp)
 rw [if_pos x6] at H
 have N8 := z1 x6
 clear x6
 by_cases y6 : a < (q.length : Int)
 rotate_left
 · rw [if_neg y6] at H
   exact absurd H (by simp)
 rw [if_pos y6] at H
 have O8 := z1 y6
 clear y6
 by_cases n5 : ((rd_T29 o (ji7)).f0) > ((rd_T29 q a).f0)
 · as_aux_lemma =>
   rw [if_pos n5] at H
   have B7 := z1 n5
   clear n5
   have H' := zK H
   clear H
   try go_wp2
   have A := zK (Kd.R_drew l.out)
   have B := zK (ze HB.out)
   revert A B
   clear l HB
   intro l HB
   have D1 : 0 ≤ ((ji7) : Int) := z3
   have E1 : (ji7) < (o.length : Int) := z3
   obtain ⟨u, G3, M0, N0, O0, R0⟩ := at_T29 (Kd.R_reads' l.out).2.2 (ji7) D1 E1
   cases G3
   replace D1 := eq_true D1
   replace E1 := eq_true E1
   have F1 : 0 ≤ (a : Int) := z3
   have G1 : a < (q.length : Int) := z3
   obtain ⟨x, I3, a0, b0, d0, e0⟩ := at_T29 R2.out a F1 G1
   have V1 := e0
   have X1 := d0
   have a2 := b0
   have b2 := a0
   cases I3
   (try replace a0 := zX HB a0)
   (try replace b0 := zX HB b0)
   (try replace d0 := zX HB d0)
   (try replace e0 := zX HB e0)
   replace F1 := eq_true F1
   replace G1 := eq_true G1
   refine start_ (n := 44) (S := fun w' => w'.cell? (u.add (((ji7)).toNat * 4)) = some (.int .i64 ((rd_T29 o (ji7)).f0)) ∧ w'.cell? ⟨(u.add (((ji7)).toNat * 4)).block, (u.add (((ji7)).toNat * 4)).off + 1, none⟩ = some (.int .i64 ((rd_T29 o (ji7)).f1)) ∧ w'.cell? ⟨(u.add (((ji7)).toNat * 4)).block, (u.add (((ji7)).toNat * 4)).off + 2, none⟩ = some (.int .i64 ((rd_T29 o (ji7)).f2)) ∧ w'.cell? ⟨(u.add (((ji7)).toNat * 4)).block, (u.add (((ji7)).toNat * 4)).off + 3, none⟩ = some (.bool ((rd_T29 o (ji7)).f3)) ∧ w'.cell? (x.add ((a).toNat * 4)) = some (.int .i64 ((rd_T29 q a).f0)) ∧ w'.cell? ⟨(x.add ((a).toNat * 4)).block, (x.add ((a).toNat * 4)).off + 1, none⟩ = some (.int .i64 ((rd_T29 q a).f1)) ∧ w'.cell? ⟨(x.add ((a).toNat * 4)).block, (x.add ((a).toNat * 4)).off + 2, none⟩ = some (.int .i64 ((rd_T29 q a).f2)) ∧ w'.cell? ⟨(x.add ((a).toNat * 4)).block, (x.add ((a).toNat * 4)).off + 3, none⟩ = some (.bool ((rd_T29 q a).f3))) (ds := []) (bl 44 0) (by kernel_rfl) rfl (by kernel_rfl) ⟨M0, N0, O0, R0, (zX HB b2:), (zX HB a2:), (zX HB X1:), (zX HB V1:)⟩ (fun hHeld => ?_); refine with_tabW spec_l19Sort.tab6 spec_l19Sort.bits6 (fun HT_ HW_ => ?_)
   generalize wr.drew = G9 at l HB M0 N0 O0 R0 a0 b0 d0 e0 hHeld ⊢
   refine zP 0 15 (bl 44 1) HT_ ?_
   refine zP 1 16 (bl 44 3) HT_ ?_
   refine zP 2 17 (bl 44 7) HT_ ?_
   refine zP 3 18 (bl 44 15) HT_ ?_
   refine zP 4 19 (bl 44 31) HT_ ?_
   refine zP 5 20 (bl 44 63) HT_ ?_
   refine zP 6 21 (bl 44 127) HT_ ?_
   refine zP 7 22 (bl 44 255) HT_ ?_
   refine zP 9 24 (bl 44 767) HT_ ?_
   refine zP 10 25 (bl 44 1791) HT_ ?_
   refine zP 11 26 (bl 44 3839) HT_ ?_
   refine zP 12 27 (bl 44 7935) HT_ ?_
   refine zT 8 23 (bl 44 8191) rfl rfl HT_ HW_ hHeld (by rintro w' ⟨s0, s1, s2, s3, s4, s5, s6, s7⟩; go_simp; with_reducible rfl) ?_
   refine zT 13 28 (bl 44 16383) rfl rfl HT_ HW_ hHeld (by rintro w' ⟨s0, s1, s2, s3, s4, s5, s6, s7⟩; go_simp; with_reducible rfl) ?_
   refine zP 14 29 (bl 44 32767) HT_ ?_
   refine zP 15 30 (bl 44 65535) HT_ ?_
   refine zO 16 31 (bl 44 131071) HT_ ?_
   refine zO 17 32 (bl 44 262143) HT_ ?_
   refine zO 18 33 (bl 44 524287) HT_ ?_
   refine zO 19 34 (bl 44 1048575) HT_ ?_
   refine zO 20 35 (bl 44 2097151) HT_ ?_
   refine zO 21 36 (bl 44 4194303) HT_ ?_
   refine zO 22 37 (bl 44 8388607) HT_ ?_
   refine zO 23 38 (bl 44 16777215) HT_ ?_
   refine zO 24 39 (bl 44 33554431) HT_ ?_
   refine zO 25 40 (bl 44 67108863) HT_ ?_
   refine zO 26 41 (bl 44 134217727) HT_ ?_
   refine zO 27 42 (bl 44 268435455) HT_ ?_
   refine zO 28 43 (bl 44 536870911) HT_ ?_
   refine zO 29 44 (bl 44 1073741823) HT_ ?_
   refine zO 30 45 (bl 44 2147483647) HT_ ?_
   refine zO 31 46 (bl 44 4294967295) HT_ ?_
   refine zO 32 47 (bl 44 8589934591) HT_ ?_
   refine zO 33 48 (bl 44 17179869183) HT_ ?_
   refine zO 34 49 (bl 44 34359738367) HT_ ?_
   refine zO 35 50 (bl 44 68719476735) HT_ ?_
   refine zO 36 51 (bl 44 137438953471) HT_ ?_
   refine zO 37 52 (bl 44 274877906943) HT_ ?_
   refine zO 38 53 (bl 44 549755813887) HT_ ?_
   refine zO 39 54 (bl 44 1099511627775) HT_ ?_
   refine zO 40 55 (bl 44 2199023255551) HT_ ?_
   refine zO 41 56 (bl 44 4398046511103) HT_ ?_
   refine zP 42 57 (bl 44 8796093022207) HT_ ?_
   refine zP 43 58 (bl 44 17592186044415) HT_ ?_
   refine done_ (done_of HT_.out (by kernel_rfl)) ?_
   try go_wp2
   go_roundg k2
   case measure => have := D3.out; have := E3.out; omega
   case rel => exact ⟨(ji7), (by first | rfl | (simp; done) | (simp only [← hji7] <;> (first | rfl | simp)) | (simp [*]; done)), H', ⟨by have := D3.out; have := E3.out; omega⟩, ⟨zkR l⟩, ⟨zB⟩⟩
 rw [if_neg n5] at H
 have B7 := z2 n5
 clear n5
 by_cases g5 : ((rd_T29 o (ji7)).f0) = ((rd_T29 q a).f0)
 rotate_left
 · as_aux_lemma =>
   rw [if_neg g5] at H
   have C7 := beq_eq_false_iff_ne.mpr g5
   have D7 := bne_iff_ne.mpr g5
   obtain ⟨g2, g4⟩ : ∃ y_ : List (S29), y_ = (([] : List (S29))) := ⟨_, rfl⟩
   replace H : (if 0 ≤ y then (if y ≤ (o.length : Int) then ((some (o.take (y : Int).toNat : List (S29))).bind fun F0 => (if g2.length + F0.length < 4398046511104 then ((some (g2 ++ F0 : List (S29))).bind fun m1 => ((some (([(⟨(rd_T29 q a).f0, (rd_T29 q a).f1, (rd_T29 q a).f2, (rd_T29 q a).f3⟩ : S29)] : List (S29)) : List (S29))).bind fun y0 => (if m1.length + y0.length < 4398046511104 then ((some (m1 ++ y0 : List (S29))).bind fun D0 => ((some (o.drop (y : Int).toNat : List (S29))).bind fun i0 => (if D0.length + i0.length < 4398046511104 then (spec_l19Sort.l0 k2 q (D0 ++ i0) (wrap64 (a + 1))) else (none)))) else (none)))) else (none))) else (none)) else (none)) = some r := by first | (rw [g4]; with_reducible exact H) | (have z := (Option.bind_some _ _).symm.trans H; rw [g4]; with_reducible exact z) | (have z := (Option.bind_some _ _).symm.trans H; with_reducible exact z) | with_reducible exact H | (rw [g4]; exact H) | exact H
   have Ny135 := zK g4
   clear g4
   by_cases D5 : 0 ≤ y
   rotate_left
   · rw [if_neg D5] at H
     exact absurd H (by simp)
   rw [if_pos D5] at H
   have R8 := eq_true D5
   have S8 := z1 D5
   clear D5
   by_cases E5 : y ≤ (o.length : Int)
   rotate_left
   · rw [if_neg E5] at H
     exact absurd H (by simp)
   rw [if_pos E5] at H
   have T8 := eq_true E5
   have U8 := z1 E5
   clear E5
   obtain ⟨F0, i4⟩ : ∃ y_ : List (S29), y_ = (o.take (y : Int).toNat) := ⟨_, rfl⟩
   replace H : (if g2.length + F0.length < 4398046511104 then ((some (g2 ++ F0 : List (S29))).bind fun m1 => ((some (([(⟨(rd_T29 q a).f0, (rd_T29 q a).f1, (rd_T29 q a).f2, (rd_T29 q a).f3⟩ : S29)] : List (S29)) : List (S29))).bind fun y0 => (if m1.length + y0.length < 4398046511104 then ((some (m1 ++ y0 : List (S29))).bind fun D0 => ((some (o.drop (y : Int).toNat : List (S29))).bind fun i0 => (if D0.length + i0.length < 4398046511104 then (spec_l19Sort.l0 k2 q (D0 ++ i0) (wrap64 (a + 1))) else (none)))) else (none)))) else (none)) = some r := by first | (rw [i4]; with_reducible exact H) | (have z := (Option.bind_some _ _).symm.trans H; rw [i4]; with_reducible exact z) | (have z := (Option.bind_some _ _).symm.trans H; with_reducible exact z) | with_reducible exact H | (rw [i4]; exact H) | exact H
   have Ny138 := zK i4
   clear i4
   by_cases A6 : g2.length + F0.length < 4398046511104
   rotate_left
   · rw [if_neg A6] at H
     exact absurd H (by simp)
   rw [if_pos A6] at H
   have LMc39 := zK A6
   clear A6
   obtain ⟨m1, j4⟩ : ∃ y_ : List (S29), y_ = (g2 ++ F0) := ⟨_, rfl⟩
   replace H : ((some (([(⟨(rd_T29 q a).f0, (rd_T29 q a).f1, (rd_T29 q a).f2, (rd_T29 q a).f3⟩ : S29)] : List (S29)) : List (S29))).bind fun y0 => (if m1.length + y0.length < 4398046511104 then ((some (m1 ++ y0 : List (S29))).bind fun D0 => ((some (o.drop (y : Int).toNat : List (S29))).bind fun i0 => (if D0.length + i0.length < 4398046511104 then (spec_l19Sort.l0 k2 q (D0 ++ i0) (wrap64 (a + 1))) else (none)))) else (none))) = some r := by first | (rw [j4]; with_reducible exact H) | (have z := (Option.bind_some _ _).symm.trans H; rw [j4]; with_reducible exact z) | (have z := (Option.bind_some _ _).symm.trans H; with_reducible exact z) | with_reducible exact H | (rw [j4]; exact H) | exact H
   have Ny142 := zK j4
   clear j4
   obtain ⟨y0, l4⟩ : ∃ y_ : List (S29), y_ = (([(⟨(rd_T29 q a).f0, (rd_T29 q a).f1, (rd_T29 q a).f2, (rd_T29 q a).f3⟩ : S29)] : List (S29))) := ⟨_, rfl⟩
   replace H : (if m1.length + y0.length < 4398046511104 then ((some (m1 ++ y0 : List (S29))).bind fun D0 => ((some (o.drop (y : Int).toNat : List (S29))).bind fun i0 => (if D0.length + i0.length < 4398046511104 then (spec_l19Sort.l0 k2 q (D0 ++ i0) (wrap64 (a + 1))) else (none)))) else (none)) = some r := by first | (rw [l4]; with_reducible exact H) | (have z := (Option.bind_some _ _).symm.trans H; rw [l4]; with_reducible exact z) | (have z := (Option.bind_some _ _).symm.trans H; with_reducible exact z) | with_reducible exact H | (rw [l4]; exact H) | exact H
   have Ny146 := zK l4
   clear l4
   by_cases B6 : m1.length + y0.length < 4398046511104
   rotate_left
   · rw [if_neg B6] at H
     exact absurd H (by simp)
   rw [if_pos B6] at H
   have LMc40 := zK B6
   clear B6
   obtain ⟨D0, m4⟩ : ∃ y_ : List (S29), y_ = (m1 ++ y0) := ⟨_, rfl⟩
   replace H : ((some (o.drop (y : Int).toNat : List (S29))).bind fun i0 => (if D0.length + i0.length < 4398046511104 then (spec_l19Sort.l0 k2 q (D0 ++ i0) (wrap64 (a + 1))) else (none))) = some r := by first | (rw [m4]; with_reducible exact H) | (have z := (Option.bind_some _ _).symm.trans H; rw [m4]; with_reducible exact z) | (have z := (Option.bind_some _ _).symm.trans H; with_reducible exact z) | with_reducible exact H | (rw [m4]; exact H) | exact H
   have Ny149 := zK m4
   clear m4
   have V8 := eq_true (z3 : 0 ≤ y)
   have X8 := eq_true (z3 : y ≤ (o.length : Int))
   obtain ⟨i0, n4⟩ : ∃ y_ : List (S29), y_ = (o.drop (y : Int).toNat) := ⟨_, rfl⟩
   replace H : (if D0.length + i0.length < 4398046511104 then (spec_l19Sort.l0 k2 q (D0 ++ i0) (wrap64 (a + 1))) else (none)) = some r := by first | (rw [n4]; with_reducible exact H) | (have z := (Option.bind_some _ _).symm.trans H; rw [n4]; with_reducible exact z) | (have z := (Option.bind_some _ _).symm.trans H; with_reducible exact z) | with_reducible exact H | (rw [n4]; exact H) | exact H
   have Ny152 := zK n4
   clear n4
   by_cases C6 : D0.length + i0.length < 4398046511104
   rotate_left
   · rw [if_neg C6] at H
     exact absurd H (by simp)
   rw [if_pos C6] at H
   have LMc43 := zK C6
   clear C6
   obtain ⟨d7, o4⟩ : ∃ y_ : List (S29), y_ = (D0 ++ i0) := ⟨_, rfl⟩
   replace H : (spec_l19Sort.l0 k2 q d7 (wrap64 (a + 1))) = some r := by first | (rw [o4]; with_reducible exact H) | (have z := (Option.bind_some _ _).symm.trans H; rw [o4]; with_reducible exact z) | (have z := (Option.bind_some _ _).symm.trans H; with_reducible exact z) | with_reducible exact H | (rw [o4]; exact H) | exact H
   have Ny156 := zK o4
   clear o4
   have H' := zK H
   clear H
   try go_wp2
   have A := zK (Kd.R_drew l.out)
   have B := zK (ze HB.out)
   revert A B
   clear l HB
   intro l HB
   have D1 : 0 ≤ ((ji7) : Int) := z3
   have E1 : (ji7) < (o.length : Int) := z3
   obtain ⟨u, G3, M0, N0, O0, R0⟩ := at_T29 (Kd.R_reads' l.out).2.2 (ji7) D1 E1
   cases G3
   replace D1 := eq_true D1
   replace E1 := eq_true E1
   have F1 : 0 ≤ (a : Int) := z3
   have G1 : a < (q.length : Int) := z3
   obtain ⟨x, I3, a0, b0, d0, e0⟩ := at_T29 R2.out a F1 G1
   have V1 := e0
   have X1 := d0
   have a2 := b0
   have b2 := a0
   cases I3
   (try replace a0 := zX HB a0)
   (try replace b0 := zX HB b0)
   (try replace d0 := zX HB d0)
   (try replace e0 := zX HB e0)
   replace F1 := eq_true F1
   replace G1 := eq_true G1
   have i2 : 0 ≤ ((ji7) : Int) := z3
   have j2 : (ji7) < (o.length : Int) := z3
   obtain ⟨p4, i5, L1, M1, N1, O1⟩ := at_T29 (Kd.R_reads' l.out).2.2 (ji7) i2 j2
   obtain rfl : u = p4 := (by injection i5)
   replace i2 := eq_true i2
   replace j2 := eq_true j2
   have l2 : 0 ≤ (a : Int) := z3
   have m2 : a < (q.length : Int) := z3
   obtain ⟨q4, j5, o0, p0, q0, t0⟩ := at_T29 R2.out a l2 m2
   have E2 := t0
   have F2 := q0
   have G2 := p0
   have I2 := o0
   obtain rfl : x = q4 := (by injection j5)
   (try replace o0 := zX HB o0)
   (try replace p0 := zX HB p0)
   (try replace q0 := zX HB q0)
   (try replace t0 := zX HB t0)
   replace l2 := eq_true l2
   replace m2 := eq_true m2
   refine start_ (n := 44) (S := fun w' => w'.cell? (u.add (((ji7)).toNat * 4)) = some (.int .i64 ((rd_T29 o (ji7)).f0)) ∧ w'.cell? ⟨(u.add (((ji7)).toNat * 4)).block, (u.add (((ji7)).toNat * 4)).off + 1, none⟩ = some (.int .i64 ((rd_T29 o (ji7)).f1)) ∧ w'.cell? ⟨(u.add (((ji7)).toNat * 4)).block, (u.add (((ji7)).toNat * 4)).off + 2, none⟩ = some (.int .i64 ((rd_T29 o (ji7)).f2)) ∧ w'.cell? ⟨(u.add (((ji7)).toNat * 4)).block, (u.add (((ji7)).toNat * 4)).off + 3, none⟩ = some (.bool ((rd_T29 o (ji7)).f3)) ∧ w'.cell? (x.add ((a).toNat * 4)) = some (.int .i64 ((rd_T29 q a).f0)) ∧ w'.cell? ⟨(x.add ((a).toNat * 4)).block, (x.add ((a).toNat * 4)).off + 1, none⟩ = some (.int .i64 ((rd_T29 q a).f1)) ∧ w'.cell? ⟨(x.add ((a).toNat * 4)).block, (x.add ((a).toNat * 4)).off + 2, none⟩ = some (.int .i64 ((rd_T29 q a).f2)) ∧ w'.cell? ⟨(x.add ((a).toNat * 4)).block, (x.add ((a).toNat * 4)).off + 3, none⟩ = some (.bool ((rd_T29 q a).f3)) ∧ w'.cell? (u.add (((ji7)).toNat * 4)) = some (.int .i64 ((rd_T29 o (ji7)).f0)) ∧ w'.cell? ⟨(u.add (((ji7)).toNat * 4)).block, (u.add (((ji7)).toNat * 4)).off + 1, none⟩ = some (.int .i64 ((rd_T29 o (ji7)).f1)) ∧ w'.cell? ⟨(u.add (((ji7)).toNat * 4)).block, (u.add (((ji7)).toNat * 4)).off + 2, none⟩ = some (.int .i64 ((rd_T29 o (ji7)).f2)) ∧ w'.cell? ⟨(u.add (((ji7)).toNat * 4)).block, (u.add (((ji7)).toNat * 4)).off + 3, none⟩ = some (.bool ((rd_T29 o (ji7)).f3)) ∧ w'.cell? (x.add ((a).toNat * 4)) = some (.int .i64 ((rd_T29 q a).f0)) ∧ w'.cell? ⟨(x.add ((a).toNat * 4)).block, (x.add ((a).toNat * 4)).off + 1, none⟩ = some (.int .i64 ((rd_T29 q a).f1)) ∧ w'.cell? ⟨(x.add ((a).toNat * 4)).block, (x.add ((a).toNat * 4)).off + 2, none⟩ = some (.int .i64 ((rd_T29 q a).f2)) ∧ w'.cell? ⟨(x.add ((a).toNat * 4)).block, (x.add ((a).toNat * 4)).off + 3, none⟩ = some (.bool ((rd_T29 q a).f3))) (ds := []) (bl 44 0) (by kernel_rfl) rfl (by kernel_rfl) ⟨M0, N0, O0, R0, (zX HB b2:), (zX HB a2:), (zX HB X1:), (zX HB V1:), L1, M1, N1, O1, (zX HB I2:), (zX HB G2:), (zX HB F2:), (zX HB E2:)⟩ (fun hHeld => ?_); refine with_tabW spec_l19Sort.tab6 spec_l19Sort.bits6 (fun HT_ HW_ => ?_)
   generalize wr.drew = n8 at l HB M0 N0 O0 R0 a0 b0 d0 e0 L1 M1 N1 O1 o0 p0 q0 t0 hHeld ⊢
   refine zP 0 15 (bl 44 1) HT_ ?_
   refine zP 1 16 (bl 44 3) HT_ ?_
   refine zP 2 17 (bl 44 7) HT_ ?_
   refine zP 3 18 (bl 44 15) HT_ ?_
   refine zP 4 19 (bl 44 31) HT_ ?_
   refine zP 5 20 (bl 44 63) HT_ ?_
   refine zP 6 21 (bl 44 127) HT_ ?_
   refine zP 7 22 (bl 44 255) HT_ ?_
   refine zP 9 24 (bl 44 767) HT_ ?_
   refine zP 10 25 (bl 44 1791) HT_ ?_
   refine zP 11 26 (bl 44 3839) HT_ ?_
   refine zP 12 27 (bl 44 7935) HT_ ?_
   refine zT 8 23 (bl 44 8191) rfl rfl HT_ HW_ hHeld (by rintro w' ⟨s0, s1, s2, s3, s4, s5, s6, s7, s8, s9, n2, o2, q2, t2, x2, y2⟩; go_simp; with_reducible rfl) ?_
   refine zT 13 28 (bl 44 16383) rfl rfl HT_ HW_ hHeld (by rintro w' ⟨s0, s1, s2, s3, s4, s5, s6, s7, s8, s9, n2, o2, q2, t2, x2, y2⟩; go_simp; with_reducible rfl) ?_
   refine zP 14 29 (bl 44 32767) HT_ ?_
   refine zP 15 30 (bl 44 65535) HT_ ?_
   refine zP 16 31 (bl 44 131071) HT_ ?_
   refine zP 17 32 (bl 44 262143) HT_ ?_
   refine zP 18 33 (bl 44 524287) HT_ ?_
   refine zP 19 34 (bl 44 1048575) HT_ ?_
   refine zP 20 35 (bl 44 2097151) HT_ ?_
   refine zP 22 37 (bl 44 6291455) HT_ ?_
   refine zP 23 38 (bl 44 14680063) HT_ ?_
   refine zP 24 39 (bl 44 31457279) HT_ ?_
   refine zP 25 40 (bl 44 65011711) HT_ ?_
   refine zT 21 36 (bl 44 67108863) rfl rfl HT_ HW_ hHeld (by rintro w' ⟨s0, s1, s2, s3, s4, s5, s6, s7, s8, s9, n2, o2, q2, t2, x2, y2⟩; go_simp; with_reducible rfl) ?_
   refine zT 26 41 (bl 44 134217727) rfl rfl HT_ HW_ hHeld (by rintro w' ⟨s0, s1, s2, s3, s4, s5, s6, s7, s8, s9, n2, o2, q2, t2, x2, y2⟩; go_simp; with_reducible rfl) ?_
   refine zP 27 42 (bl 44 268435455) HT_ ?_
   refine zP 28 43 (bl 44 536870911) HT_ ?_
   refine zO 29 44 (bl 44 1073741823) HT_ ?_
   refine zO 30 45 (bl 44 2147483647) HT_ ?_
   refine zO 31 46 (bl 44 4294967295) HT_ ?_
   refine zO 32 47 (bl 44 8589934591) HT_ ?_
   refine zO 33 48 (bl 44 17179869183) HT_ ?_
   refine zO 34 49 (bl 44 34359738367) HT_ ?_
   refine zO 35 50 (bl 44 68719476735) HT_ ?_
   refine zO 36 51 (bl 44 137438953471) HT_ ?_
   refine zO 37 52 (bl 44 274877906943) HT_ ?_
   refine zO 38 53 (bl 44 549755813887) HT_ ?_
   refine zO 39 54 (bl 44 1099511627775) HT_ ?_
   refine zO 40 55 (bl 44 2199023255551) HT_ ?_
   refine zP 41 56 (bl 44 4398046511103) HT_ ?_
   refine zP 42 57 (bl 44 8796093022207) HT_ ?_
   refine zP 43 58 (bl 44 17592186044415) HT_ ?_
   refine done_ (done_of HT_.out (by kernel_rfl)) ?_
   try go_wp2
   have A := zK (Kd.R_drew l.out)
   have B := zK (ze HB.out)
   revert A B
   clear l HB
   intro l HB
   have e7 : (y : Int) ≤ ((o.length : Int) : Int) := z3
   obtain ⟨x9, D6, _, hsz46, _⟩ := info_parts info29
   have hroom46 : o.length ≤ D := (Kd.R_reads' l.out).2.1
   have hC46 : Kd.C k29 _ (some u) o.length o := (Kd.R_reads' l.out).2.2
   have hcut46 := cut_to (P := Try.prog) 22 29 .i64 Try.underlying22 D6 (some u) o.length D y (z3) e7 hroom46
   have S5 := Kd.C_take (m := (y : Int).toNat) hC46 (by omega)
   have T5 : F0.length = (y : Int).toNat := (by rw [Ny138.out, List.length_take]; omega)
   rw [← Ny138.out] at S5
   rw [← T5] at hcut46
   have L := zK S5
   have a9 := zK (show F0.length ≤ D from by omega)
   clear S5 hC46 hroom46 D6 hsz46
   have KY46 := zK T5
   clear T5
   have KL46 := zK (show (y : Int).toNat ≤ o.length from by omega)
   replace e7 := eq_true e7
   have U5 : 0 ≤ (a : Int) := z3
   have V5 : a < (q.length : Int) := z3
   obtain ⟨E7, V7, p3, q3, t3, x3⟩ := at_T29 R2.out a U5 V5
   have S0 := x3
   have T0 := t3
   have U0 := q3
   have V0 := p3
   obtain rfl : x = E7 := (by injection V7)
   (try replace p3 := zX HB p3)
   (try replace q3 := zX HB q3)
   (try replace t3 := zX HB t3)
   (try replace x3 := zX HB x3)
   replace U5 := eq_true U5
   replace V5 := eq_true V5
   refine start_ (n := 16) (S := fun w' => w'.cell? (x.add ((a).toNat * 4)) = some (.int .i64 ((rd_T29 q a).f0)) ∧ w'.cell? ⟨(x.add ((a).toNat * 4)).block, (x.add ((a).toNat * 4)).off + 1, none⟩ = some (.int .i64 ((rd_T29 q a).f1)) ∧ w'.cell? ⟨(x.add ((a).toNat * 4)).block, (x.add ((a).toNat * 4)).off + 2, none⟩ = some (.int .i64 ((rd_T29 q a).f2)) ∧ w'.cell? ⟨(x.add ((a).toNat * 4)).block, (x.add ((a).toNat * 4)).off + 3, none⟩ = some (.bool ((rd_T29 q a).f3))) (ds := []) (bl 16 0) (by kernel_rfl) rfl (by kernel_rfl) ⟨(zX HB V0:), (zX HB U0:), (zX HB T0:), (zX HB S0:)⟩ (fun hHeld => ?_); refine with_tabW spec_l19Sort.tab8 spec_l19Sort.bits8 (fun HT_ HW_ => ?_)
   generalize n8.drew = I9 at l HB L p3 q3 t3 x3 hHeld ⊢
   refine zP 1 62 (bl 16 2) HT_ ?_
   refine zP 2 63 (bl 16 6) HT_ ?_
   refine zP 3 64 (bl 16 14) HT_ ?_
   refine zP 5 66 (bl 16 46) HT_ ?_
   refine zP 6 67 (bl 16 110) HT_ ?_
   refine zP 7 68 (bl 16 238) HT_ ?_
   refine zP 11 72 (bl 16 2286) HT_ ?_
   refine zP 12 73 (bl 16 6382) HT_ ?_
   refine zP 13 74 (bl 16 14574) HT_ ?_
   refine zT 8 69 (bl 16 14830) rfl rfl HT_ HW_ hHeld (by rintro w' ⟨s0, s1, s2, s3⟩; go_simp; with_reducible rfl) ?_
   refine join_ (σ := Value × Value × Value) 3 (bl 16 15359) (fun s_ => [(61, s_.1), (65, s_.2.1), (70, s_.2.2)]) (fun s_ w' => (w'.cell? (x.add ((a).toNat * 4)) = some (.int .i64 ((rd_T29 q a).f0)) ∧ w'.cell? ⟨(x.add ((a).toNat * 4)).block, (x.add ((a).toNat * 4)).off + 1, none⟩ = some (.int .i64 ((rd_T29 q a).f1)) ∧ w'.cell? ⟨(x.add ((a).toNat * 4)).block, (x.add ((a).toNat * 4)).off + 2, none⟩ = some (.int .i64 ((rd_T29 q a).f2)) ∧ w'.cell? ⟨(x.add ((a).toNat * 4)).block, (x.add ((a).toNat * 4)).off + 3, none⟩ = some (.bool ((rd_T29 q a).f3))) ∧ (Kd.R k29 29 w' w.heap.size (fun k_ => some k_ ≠ (s_.2.2 : Value).ownBlock ∧ some k_ ≠ (.slice (some u) o.length D : Value).ownBlock) s_.2.1 m1) ∧ (Kd.R k29 29 w' w.heap.size (fun k_ => some k_ ≠ (s_.2.1 : Value).ownBlock ∧ some k_ ≠ (.slice (some u) o.length D : Value).ownBlock) s_.2.2 y0) ∧ (Kd.R k29 29 w' w.heap.size (fun k_ => some k_ ≠ (s_.2.1 : Value).ownBlock ∧ some k_ ≠ (s_.2.2 : Value).ownBlock) (.slice (some u) o.length D) o) ∧ (Below w.heap.size w w')) ?_ ?_
   rotate_left
   · as_aux_lemma =>
     intro hCont
     refine two_ (i := 0) (j := 9) (Ni := some 61) (Nj := some 70) (bl 16 14831) (bl 16 15342) rfl rfl rfl rfl (two_of HT_.out (by kernel_rfl)) (by decide) (by decide) (fun K hK => ?_) (fun K hK => ?_)
     · as_aux_lemma =>
       skip
       refine Kd.R_lit_step k29 _ 29 ?hg (N := 61) ?hd (xs := ([] : List (S29))) (inner := []) (ok := fun _ => True) (okp := fun _ => True) ?hr ?hp (fun _ hk => hk) trivial (Below.refl _ _) (Nat.le_refl _) (by simp) ?_; (case hd => rfl); (case hg => rfl); (case hr => first | (go_simp; done) | (go_simp; rfl)); (case hp => exact (Reps.none _ _))
       intro v136 o8 c2 hb hg_ hnew_
       clear hg_ hnew_
       (first | rw [← Ny135.out] at c2 | (simp only [Int.reduceToNat] at c2; rw [← Ny135.out] at c2))
       have A := zK (Kd.R_elder' (zkR l) (Kd.R_base c2) hb)
       have B := zK (Kd.R_lower (Kd.R_new' c2 (Kd.R_lt (zkR l))) (zz zB))
       have E := zK (z4 (by repeat (first | (with_reducible exact L.out) | (with_reducible refine Kd.C_alloc ?_ _) | (with_reducible refine Kd.C_drewN ?_ _) | (with_reducible refine Kd.C_drew ?_) | exact L.out)) hb)
       have I := z8 hb
       revert A B E I
       clear l L HB
       intro l S1 L HB
       clear hb c2
       refine hK.out _ _ ⟨(zX HB V0:), (zX HB U0:), (zX HB T0:), (zX HB S0:)⟩ (fun hHeld => ?_)
       clear hK K
       refine zU 61 ?_
       refine two_ (i := 4) (j := 9) (Ni := some 65) (Nj := some 70) (bl 16 14847) (bl 16 15343) rfl rfl rfl rfl (two_of HT_.out (by kernel_rfl)) (by decide) (by decide) (fun K hK => ?_) (fun K hK => ?_)
       · as_aux_lemma =>
         skip
         refine Kd.R_append_rows_step k29 (w0 := w) w.heap.size (by rfl) (.tmp 61) (.tmp 64) 22 29 (.agg #[(.int .i64 0), (.int .i64 0), (.int .i64 0), (.bool false)]) 32 rfl Try.underlying22 info29 rfl (by decide) (by omega) v136 g2 F0 _ _ _ (fun k_ => some k_ ≠ (.slice (some u) o.length D : Value).ownBlock) (fun _ => False) rfl rfl ?aO ?aR (fun _ _ h => h) (fun _ h => h.elim) ?aF ?aB ?aS ?aL ?_
         (case aR => repeat (first | exact (by repeat (first | (with_reducible exact L.out) | (with_reducible refine Kd.C_alloc ?_ _) | (with_reducible refine Kd.C_drewN ?_ _) | (with_reducible refine Kd.C_drew ?_) | exact L.out)) | (with_reducible refine Kd.C_alloc ?_ _) | (with_reducible refine Kd.C_drewN ?_ _) | (with_reducible refine Kd.C_drew ?_)))
         (case aB => exact zB)
         (case aF => exact (fun k_ hk => Kd.fresh' (Kd.R_lt (zkR l)) k_ hk))
         (case aO => exact (Kd.R_mono (zlR S1.out) (fun _ hk => hk.2)))
         (case aS => exact (zz zB))
         (case aL => have := LMc39.out; omega)
         intro v143 f7 ho hb hg hat
         rw [← Ny142.out] at ho
         have A := zK (Kd.R_after (ok := (fun _ => True)) (zkR l) hg hat)
         have B := zK (hb)
         have E := zK ((show Kd.C k29 f7 (some u) F0.length F0 from by rw [Ny138.out]; exact Kd.C_take (m := (y : Int).toNat) ((Kd.R_reads' (Kd.R_after (ok := (fun _ => True)) (zkR l) hg hat)).2.2) KL46.out))
         have I := zK (ho)
         revert A B E I
         clear l HB L S1
         intro l HB L x1
         clear ho hb hg hat
         refine hK.out _ _ ⟨(zX HB V0:), (zX HB U0:), (zX HB T0:), (zX HB S0:)⟩ (fun hHeld => ?_)
         clear hK K
         refine zU 65 ?_
         refine one_ (i := 9) (N := some 70) (bl 16 15359) rfl rfl (one_of HT_.out (by kernel_rfl)) (by decide) (fun K hK => ?_)
         refine Kd.R_lit_step k29 _ 29 ?hg (N := 70) ?hd (xs := ([(⟨(rd_T29 q a).f0, (rd_T29 q a).f1, (rd_T29 q a).f2, (rd_T29 q a).f3⟩ : S29)] : List (S29))) (inner := [.int .i64 ((rd_T29 q a).f0), .int .i64 ((rd_T29 q a).f1), .int .i64 ((rd_T29 q a).f2), .bool ((rd_T29 q a).f3)]) (ok := fun _ => True) (okp := fun _ => True) ?hr ?hp (fun _ hk => hk) trivial (Below.refl _ _) (Nat.le_refl _) (by simp) ?_; (case hd => rfl); (case hg => rfl); (case hr => first | (go_simp; done) | (go_simp; rfl)); (case hp => exact (Reps.c4 (show Kd.M k29 _ _ _ (⟨(rd_T29 q a).f0, (rd_T29 q a).f1, (rd_T29 q a).f2, (rd_T29 q a).f3⟩ : S29) [.int .i64 ((rd_T29 q a).f0), .int .i64 ((rd_T29 q a).f1), .int .i64 ((rd_T29 q a).f2), .bool ((rd_T29 q a).f3)] from (k29_mkM _ _ _ (⟨(rd_T29 q a).f0, (rd_T29 q a).f1, (rd_T29 q a).f2, (rd_T29 q a).f3⟩ : S29) )) (Reps.none _ _)))
         intro v147 J9 M3 hb hg_ hnew_
         clear hg_ hnew_
         (first | rw [← Ny146.out] at M3 | (simp only [Int.reduceToNat] at M3; rw [← Ny146.out] at M3))
         have A := zK (Kd.R_elder' (zkR l) (Kd.R_base M3) hb)
         have B := zK (Kd.R_elder' (zkR x1) (Kd.R_base M3) hb)
         have E := zK (Kd.R_lower (Kd.R_new' (Kd.R_new' M3 (Kd.R_lt (zkR l))) (Kd.R_lt (zkR x1))) (zz zB))
         have I := zK (z4 (by repeat (first | (with_reducible exact L.out) | (with_reducible refine Kd.C_alloc ?_ _) | (with_reducible refine Kd.C_drewN ?_ _) | (with_reducible refine Kd.C_drew ?_) | exact L.out)) hb)
         have n0 := z8 hb
         revert A B E I n0
         clear l x1 L HB
         intro l x1 U L HB
         clear hb M3
         refine hK.out _ _ ⟨(zX HB V0:), (zX HB U0:), (zX HB T0:), (zX HB S0:)⟩ (fun hHeld => ?_)
         clear hK K
         refine zU 70 ?_
         exact norm_ (by simp only [putAll, Act.put, zq1, zq2, zq3]) (hCont (v136, v143, v147) _ ⟨hHeld, (Kd.R_mono (zlR x1.out) (fun _ hk => ⟨hk.2, hk.1⟩)), (Kd.R_mono (zlR U.out) (fun _ hk => ⟨hk.2, hk.1.2⟩)), (Kd.R_mono (zlR l.out) (fun _ hk => ⟨hk.1.2, hk.2⟩)), zB⟩)
       · as_aux_lemma =>
         skip
         refine Kd.R_lit_step k29 _ 29 ?hg (N := 70) ?hd (xs := ([(⟨(rd_T29 q a).f0, (rd_T29 q a).f1, (rd_T29 q a).f2, (rd_T29 q a).f3⟩ : S29)] : List (S29))) (inner := [.int .i64 ((rd_T29 q a).f0), .int .i64 ((rd_T29 q a).f1), .int .i64 ((rd_T29 q a).f2), .bool ((rd_T29 q a).f3)]) (ok := fun _ => True) (okp := fun _ => True) ?hr ?hp (fun _ hk => hk) trivial (Below.refl _ _) (Nat.le_refl _) (by simp) ?_; (case hd => rfl); (case hg => rfl); (case hr => first | (go_simp; done) | (go_simp; rfl)); (case hp => exact (Reps.c4 (show Kd.M k29 _ _ _ (⟨(rd_T29 q a).f0, (rd_T29 q a).f1, (rd_T29 q a).f2, (rd_T29 q a).f3⟩ : S29) [.int .i64 ((rd_T29 q a).f0), .int .i64 ((rd_T29 q a).f1), .int .i64 ((rd_T29 q a).f2), .bool ((rd_T29 q a).f3)] from (k29_mkM _ _ _ (⟨(rd_T29 q a).f0, (rd_T29 q a).f1, (rd_T29 q a).f2, (rd_T29 q a).f3⟩ : S29) )) (Reps.none _ _)))
         intro v147 f7 I1 hb hg_ hnew_
         clear hg_ hnew_
         (first | rw [← Ny146.out] at I1 | (simp only [Int.reduceToNat] at I1; rw [← Ny146.out] at I1))
         have A := zK (Kd.R_elder' (zkR l) (Kd.R_base I1) hb)
         have B := zK (Kd.R_elder' (zkR S1) (Kd.R_base I1) hb)
         have E := zK (Kd.R_lower (Kd.R_new' (Kd.R_new' I1 (Kd.R_lt (zkR l))) (Kd.R_lt (zkR S1))) (zz zB))
         have I := zK (z4 (by repeat (first | (with_reducible exact L.out) | (with_reducible refine Kd.C_alloc ?_ _) | (with_reducible refine Kd.C_drewN ?_ _) | (with_reducible refine Kd.C_drew ?_) | exact L.out)) hb)
         have n0 := z8 hb
         revert A B E I n0
         clear l S1 L HB
         intro l S1 U L HB
         clear hb I1
         refine hK.out _ _ ⟨(zX HB V0:), (zX HB U0:), (zX HB T0:), (zX HB S0:)⟩ (fun hHeld => ?_)
         clear hK K
         refine zU 70 ?_
         refine one_ (i := 4) (N := some 65) (bl 16 15359) rfl rfl (one_of HT_.out (by kernel_rfl)) (by decide) (fun K hK => ?_)
         refine Kd.R_append_rows_step k29 (w0 := w) w.heap.size (by rfl) (.tmp 61) (.tmp 64) 22 29 (.agg #[(.int .i64 0), (.int .i64 0), (.int .i64 0), (.bool false)]) 32 rfl Try.underlying22 info29 rfl (by decide) (by omega) v136 g2 F0 _ _ _ (fun k_ => some k_ ≠ (.slice (some u) o.length D : Value).ownBlock ∧ some k_ ≠ (v147 : Value).ownBlock) (fun _ => False) rfl rfl ?aO ?aR (fun _ _ h => h) (fun _ h => h.elim) ?aF ?aB ?aS ?aL ?_
         (case aR => repeat (first | exact (by repeat (first | (with_reducible exact L.out) | (with_reducible refine Kd.C_alloc ?_ _) | (with_reducible refine Kd.C_drewN ?_ _) | (with_reducible refine Kd.C_drew ?_) | exact L.out)) | (with_reducible refine Kd.C_alloc ?_ _) | (with_reducible refine Kd.C_drewN ?_ _) | (with_reducible refine Kd.C_drew ?_)))
         (case aB => exact zB)
         (case aF => exact (fun k_ hk => ⟨Kd.fresh' (Kd.R_lt (zkR l)) k_ hk, Kd.fresh' (Kd.R_lt (zkR U)) k_ hk⟩))
         (case aO => exact (Kd.R_mono (zlR S1.out) (fun _ hk => ⟨hk.1.2, hk.2⟩)))
         (case aS => exact (zz zB))
         (case aL => have := LMc39.out; omega)
         intro v143 g7 ho hb hg hat
         rw [← Ny142.out] at ho
         have A := zK (Kd.R_after (ok := (fun k_ => some k_ ≠ (v147 : Value).ownBlock)) (Kd.R_mono (zlR l.out) (fun _ hk => ⟨hk.2, hk.1.2⟩)) hg hat)
         have B := zK (Kd.R_after (ok := (fun k_ => some k_ ≠ (.slice (some u) o.length D : Value).ownBlock)) (Kd.R_mono (zlR U.out) (fun _ hk => ⟨hk.1.2, hk.2⟩)) hg hat)
         have E := zK (hb)
         have I := zK ((show Kd.C k29 g7 (some u) F0.length F0 from by rw [Ny138.out]; exact Kd.C_take (m := (y : Int).toNat) ((Kd.R_reads' (Kd.R_after (ok := (fun k_ => some k_ ≠ (v147 : Value).ownBlock)) (Kd.R_mono (zlR l.out) (fun _ hk => ⟨hk.2, hk.1.2⟩)) hg hat)).2.2) KL46.out))
         have n0 := zK (ho)
         revert A B E I n0
         clear l U HB L S1
         intro l U HB L x1
         clear ho hb hg hat
         refine hK.out _ _ ⟨(zX HB V0:), (zX HB U0:), (zX HB T0:), (zX HB S0:)⟩ (fun hHeld => ?_)
         clear hK K
         refine zU 65 ?_
         exact norm_ (by simp only [putAll, Act.put, zq1, zq2, zq3]) (hCont (v136, v143, v147) _ ⟨hHeld, (Kd.R_mono (zlR x1.out) (fun _ hk => ⟨hk.2, hk.1⟩)), (Kd.R_mono (zlR U.out) (fun _ hk => ⟨hk.2, hk.1⟩)), (Kd.R_mono (zlR l.out) (fun _ hk => ⟨hk.2, hk.1⟩)), zB⟩)
     · as_aux_lemma =>
       skip
       refine Kd.R_lit_step k29 _ 29 ?hg (N := 70) ?hd (xs := ([(⟨(rd_T29 q a).f0, (rd_T29 q a).f1, (rd_T29 q a).f2, (rd_T29 q a).f3⟩ : S29)] : List (S29))) (inner := [.int .i64 ((rd_T29 q a).f0), .int .i64 ((rd_T29 q a).f1), .int .i64 ((rd_T29 q a).f2), .bool ((rd_T29 q a).f3)]) (ok := fun _ => True) (okp := fun _ => True) ?hr ?hp (fun _ hk => hk) trivial (Below.refl _ _) (Nat.le_refl _) (by simp) ?_; (case hd => rfl); (case hg => rfl); (case hr => first | (go_simp; done) | (go_simp; rfl)); (case hp => exact (Reps.c4 (show Kd.M k29 _ _ _ (⟨(rd_T29 q a).f0, (rd_T29 q a).f1, (rd_T29 q a).f2, (rd_T29 q a).f3⟩ : S29) [.int .i64 ((rd_T29 q a).f0), .int .i64 ((rd_T29 q a).f1), .int .i64 ((rd_T29 q a).f2), .bool ((rd_T29 q a).f3)] from (k29_mkM _ _ _ (⟨(rd_T29 q a).f0, (rd_T29 q a).f1, (rd_T29 q a).f2, (rd_T29 q a).f3⟩ : S29) )) (Reps.none _ _)))
       intro v147 o8 c2 hb hg_ hnew_
       clear hg_ hnew_
       (first | rw [← Ny146.out] at c2 | (simp only [Int.reduceToNat] at c2; rw [← Ny146.out] at c2))
       have A := zK (Kd.R_elder' (zkR l) (Kd.R_base c2) hb)
       have B := zK (Kd.R_lower (Kd.R_new' c2 (Kd.R_lt (zkR l))) (zz zB))
       have E := zK (z4 (by repeat (first | (with_reducible exact L.out) | (with_reducible refine Kd.C_alloc ?_ _) | (with_reducible refine Kd.C_drewN ?_ _) | (with_reducible refine Kd.C_drew ?_) | exact L.out)) hb)
       have I := z8 hb
       revert A B E I
       clear l L HB
       intro l U L HB
       clear hb c2
       refine hK.out _ _ ⟨(zX HB V0:), (zX HB U0:), (zX HB T0:), (zX HB S0:)⟩ (fun hHeld => ?_)
       clear hK K
       refine zU 70 ?_
       refine one_ (i := 0) (N := some 61) (bl 16 15343) rfl rfl (one_of HT_.out (by kernel_rfl)) (by decide) (fun K hK => ?_)
       refine Kd.R_lit_step k29 _ 29 ?hg (N := 61) ?hd (xs := ([] : List (S29))) (inner := []) (ok := fun _ => True) (okp := fun _ => True) ?hr ?hp (fun _ hk => hk) trivial (Below.refl _ _) (Nat.le_refl _) (by simp) ?_; (case hd => rfl); (case hg => rfl); (case hr => first | (go_simp; done) | (go_simp; rfl)); (case hp => exact (Reps.none _ _))
       intro v136 f7 I1 hb hg_ hnew_
       clear hg_ hnew_
       (first | rw [← Ny135.out] at I1 | (simp only [Int.reduceToNat] at I1; rw [← Ny135.out] at I1))
       have A := zK (Kd.R_elder' (zkR l) (Kd.R_base I1) hb)
       have B := zK (Kd.R_elder' (zkR U) (Kd.R_base I1) hb)
       have E := zK (Kd.R_lower (Kd.R_new' (Kd.R_new' I1 (Kd.R_lt (zkR l))) (Kd.R_lt (zkR U))) (zz zB))
       have I := zK (z4 (by repeat (first | (with_reducible exact L.out) | (with_reducible refine Kd.C_alloc ?_ _) | (with_reducible refine Kd.C_drewN ?_ _) | (with_reducible refine Kd.C_drew ?_) | exact L.out)) hb)
       have n0 := z8 hb
       revert A B E I n0
       clear l U L HB
       intro l U S1 L HB
       clear hb I1
       refine hK.out _ _ ⟨(zX HB V0:), (zX HB U0:), (zX HB T0:), (zX HB S0:)⟩ (fun hHeld => ?_)
       clear hK K
       refine zU 61 ?_
       refine one_ (i := 4) (N := some 65) (bl 16 15359) rfl rfl (one_of HT_.out (by kernel_rfl)) (by decide) (fun K hK => ?_)
       refine Kd.R_append_rows_step k29 (w0 := w) w.heap.size (by rfl) (.tmp 61) (.tmp 64) 22 29 (.agg #[(.int .i64 0), (.int .i64 0), (.int .i64 0), (.bool false)]) 32 rfl Try.underlying22 info29 rfl (by decide) (by omega) v136 g2 F0 _ _ _ (fun k_ => some k_ ≠ (.slice (some u) o.length D : Value).ownBlock ∧ some k_ ≠ (v147 : Value).ownBlock) (fun _ => False) rfl rfl ?aO ?aR (fun _ _ h => h) (fun _ h => h.elim) ?aF ?aB ?aS ?aL ?_
       (case aR => repeat (first | exact (by repeat (first | (with_reducible exact L.out) | (with_reducible refine Kd.C_alloc ?_ _) | (with_reducible refine Kd.C_drewN ?_ _) | (with_reducible refine Kd.C_drew ?_) | exact L.out)) | (with_reducible refine Kd.C_alloc ?_ _) | (with_reducible refine Kd.C_drewN ?_ _) | (with_reducible refine Kd.C_drew ?_)))
       (case aB => exact zB)
       (case aF => exact (fun k_ hk => ⟨Kd.fresh' (Kd.R_lt (zkR l)) k_ hk, Kd.fresh' (Kd.R_lt (zkR U)) k_ hk⟩))
       (case aO => exact (Kd.R_mono (zlR S1.out) (fun _ hk => ⟨hk.1.2, hk.2⟩)))
       (case aS => exact (zz zB))
       (case aL => have := LMc39.out; omega)
       intro v143 g7 ho hb hg hat
       rw [← Ny142.out] at ho
       have A := zK (Kd.R_after (ok := (fun k_ => some k_ ≠ (v147 : Value).ownBlock)) (Kd.R_mono (zlR l.out) (fun _ hk => ⟨hk.1.2, hk.2⟩)) hg hat)
       have B := zK (Kd.R_after (ok := (fun k_ => some k_ ≠ (.slice (some u) o.length D : Value).ownBlock)) (Kd.R_mono (zlR U.out) (fun _ hk => ⟨hk.1.2, hk.2⟩)) hg hat)
       have E := zK (hb)
       have I := zK ((show Kd.C k29 g7 (some u) F0.length F0 from by rw [Ny138.out]; exact Kd.C_take (m := (y : Int).toNat) ((Kd.R_reads' (Kd.R_after (ok := (fun k_ => some k_ ≠ (v147 : Value).ownBlock)) (Kd.R_mono (zlR l.out) (fun _ hk => ⟨hk.1.2, hk.2⟩)) hg hat)).2.2) KL46.out))
       have n0 := zK (ho)
       revert A B E I n0
       clear l U HB L S1
       intro l U HB L x1
       clear ho hb hg hat
       refine hK.out _ _ ⟨(zX HB V0:), (zX HB U0:), (zX HB T0:), (zX HB S0:)⟩ (fun hHeld => ?_)
       clear hK K
       refine zU 65 ?_
       exact norm_ (by simp only [putAll, Act.put, zq1, zq2, zq3]) (hCont (v136, v143, v147) _ ⟨hHeld, (Kd.R_mono (zlR x1.out) (fun _ hk => ⟨hk.2, hk.1⟩)), (Kd.R_mono (zlR U.out) (fun _ hk => ⟨hk.2, hk.1⟩)), (Kd.R_mono (zlR l.out) (fun _ hk => ⟨hk.2, hk.1⟩)), zB⟩)
   rintro ⟨v136, v143, v147⟩ a5 ⟨hS_, T4, U4, V4, X4⟩
   have A : Aside0 (Kd.R k29 29 a5 w.heap.size (fun k_ => some k_ ≠ (v147 : Value).ownBlock ∧ some k_ ≠ (.slice (some u) o.length D : Value).ownBlock) v143 m1) := ⟨T4⟩
   have B : Aside0 (Kd.R k29 29 a5 w.heap.size (fun k_ => some k_ ≠ (v143 : Value).ownBlock ∧ some k_ ≠ (.slice (some u) o.length D : Value).ownBlock) v147 y0) := ⟨U4⟩
   have E : Aside0 (Kd.R k29 29 a5 w.heap.size (fun k_ => some k_ ≠ (v143 : Value).ownBlock ∧ some k_ ≠ (v147 : Value).ownBlock) (.slice (some u) o.length D) o) := ⟨V4⟩
   have I : Aside0 (Below w.heap.size w a5) := ⟨X4⟩
   clear l
   clear HB
   clear T4 U4 V4 X4
   revert A B E I
   intro x1 U l HB
   have hHeld : a5.cell? (x.add ((a).toNat * 4)) = some (.int .i64 ((rd_T29 q a).f0)) ∧ a5.cell? ⟨(x.add ((a).toNat * 4)).block, (x.add ((a).toNat * 4)).off + 1, none⟩ = some (.int .i64 ((rd_T29 q a).f1)) ∧ a5.cell? ⟨(x.add ((a).toNat * 4)).block, (x.add ((a).toNat * 4)).off + 2, none⟩ = some (.int .i64 ((rd_T29 q a).f2)) ∧ a5.cell? ⟨(x.add ((a).toNat * 4)).block, (x.add ((a).toNat * 4)).off + 3, none⟩ = some (.bool ((rd_T29 q a).f3)) := hS_
   obtain ⟨G4, I4, i7⟩ := Kd.R_slice U.out
   (first | subst i7 | (injection i7 with f1_ f2_ f3_; have f4_ := f1_.symm; have f5_ := f3_.symm; clear f1_ f2_ f3_; subst f4_; subst f5_))
   refine norm_ (a' := ?_) ?_ ?_
   rotate_left
   · simp only [putAll, Act.put, zq1, zq2, zq3]
     rfl
   refine one_ (i := 10) (N := some 71) (bl 16 16383) rfl rfl (one_of HT_.out (by kernel_rfl)) (by decide) (fun K hK => ?_)
   refine Kd.R_append_rows_step k29 (w0 := w) w.heap.size (by rfl) (.tmp 65) (.tmp 70) 22 29 (.agg #[(.int .i64 0), (.int .i64 0), (.int .i64 0), (.bool false)]) 32 rfl Try.underlying22 info29 rfl (by decide) (by omega) v143 m1 y0 _ _ _ (fun k_ => some k_ ≠ (.slice (some u) o.length D : Value).ownBlock ∧ some k_ ≠ (.slice G4 y0.length I4 : Value).ownBlock) (fun _ => False) rfl rfl ?aO ?aR (fun _ _ h => h) (fun _ h => h.elim) ?aF ?aB ?aS ?aL ?_
   (case aR => exact zC (Kd.R_reads' U.out).2.2)
   (case aB => exact zB)
   (case aF => exact (fun k_ hk => ⟨Kd.fresh' (Kd.R_lt (zkR l)) k_ hk, Kd.fresh' (Kd.R_lt (zkR U)) k_ hk⟩))
   (case aO => exact (Kd.R_mono (zlR x1.out) (fun _ hk => ⟨hk.2, hk.1⟩)))
   (case aS => exact (zz zB))
   (case aL => have := LMc40.out; omega)
   intro v150 L9 ho hb hg hat
   rw [← Ny149.out] at ho
   have A := zK (Kd.R_after (ok := (fun k_ => some k_ ≠ (.slice G4 y0.length I4 : Value).ownBlock)) (Kd.R_mono (zlR l.out) (fun _ hk => ⟨hk.2, hk.1⟩)) hg hat)
   have B := zK (Kd.R_after (ok := (fun k_ => some k_ ≠ (.slice (some u) o.length D : Value).ownBlock)) (Kd.R_mono (zlR U.out) (fun _ hk => ⟨hk.2, hk.1⟩)) hg hat)
   have E := zK (hb)
   have I := zK (ho)
   revert A B E I
   clear l U HB x1
   intro l U HB E6
   clear ho hb hg hat
   have j7 : (y : Int) ≤ ((o.length : Int) : Int) := z3
   obtain ⟨y9, F6, _, hsz55, _⟩ := info_parts info29
   have hroom55 : o.length ≤ D := (Kd.R_reads' l.out).2.1
   have hC55 : Kd.C k29 _ (some u) o.length o := (Kd.R_reads' l.out).2.2
   have X7 : (0 : Int) ≤ (y : Int) := z3
   have hcut55 := cut_from (P := Try.prog) 22 29 .i64 Try.underlying22 F6 4 hsz55 (some u) o.length D y X7 j7
   have l5 := Kd.C_drop (m := (y : Int).toNat) (c := D) hC55 (by omega) hroom55
   obtain ⟨O7, hA55⟩ : ∃ A1, A1 = (if D = (y : Int).toNat then (some u) else ((some u) : Option Addr).map (·.add ((y : Int).toNat * 4))) := ⟨_, rfl⟩
   obtain ⟨p8, X5⟩ : ∃ c1, c1 = D - (y : Int).toNat := ⟨_, rfl⟩
   have q5 : i0.length = o.length - (y : Int).toNat := (by rw [Ny152.out, List.length_drop] <;> omega)
   rw [show (o).drop (y : Int).toNat = i0 from Ny152.out.symm] at l5
   replace l5 : Kd.C k29 _ O7 i0.length i0 := (by rw [hA55]; exact l5)
   rw [← q5, ← hA55, ← X5] at hcut55
   have d5 := zK l5
   have b9 := zK (show i0.length ≤ p8 from by rw [q5, X5]; exact Nat.sub_le_sub_right hroom55 _)
   clear l5 hC55 hroom55 F6 hsz55 X5
   have KY55 := zK q5
   have KA55 := zK hA55
   clear q5 hA55
   have KL55 := zK (show (y : Int).toNat ≤ o.length from by omega)
   replace j7 := eq_true j7
   refine hK.out _ _ ⟨(zX HB V0:), (zX HB U0:), (zX HB T0:), (zX HB S0:)⟩ (fun hHeld => ?_)
   clear hK K
   refine zU 71 ?_
   refine one_ (i := 14) (N := some 75) (bl 16 32767) rfl rfl (one_of HT_.out (by kernel_rfl)) (by decide) (fun K hK => ?_)
   refine Kd.R_append_rows_step k29 (w0 := w) w.heap.size (by rfl) (.tmp 71) (.tmp 74) 22 29 (.agg #[(.int .i64 0), (.int .i64 0), (.int .i64 0), (.bool false)]) 32 rfl Try.underlying22 info29 rfl (by decide) (by omega) v150 D0 i0 _ _ _ (fun k_ => some k_ ≠ (.slice (some u) o.length D : Value).ownBlock ∧ some k_ ≠ (.slice G4 y0.length I4 : Value).ownBlock) (fun _ => False) rfl rfl ?aO ?aR (fun _ _ h => h) (fun _ h => h.elim) ?aF ?aB ?aS ?aL ?_
   (case aR => have e_ := d5.out; rw [KA55.out, KY55.out] at e_; exact e_)
   (case aB => exact zB)
   (case aF => exact (fun k_ hk => ⟨Kd.fresh' (Kd.R_lt (zkR l)) k_ hk, Kd.fresh' (Kd.R_lt (zkR U)) k_ hk⟩))
   (case aO => exact (zkR E6))
   (case aS => exact (zz zB))
   (case aL => have := LMc43.out; have := KY55.out; omega)
   intro v157 q8 ho hb hg hat
   rw [← Ny156.out] at ho
   have A := zK (Kd.R_after (ok := (fun k_ => some k_ ≠ (.slice G4 y0.length I4 : Value).ownBlock)) (zkR l) hg hat)
   have B := zK (Kd.R_after (ok := (fun k_ => some k_ ≠ (.slice (some u) o.length D : Value).ownBlock)) (zkR U) hg hat)
   have E := zK (hb)
   have I := zK ((show Kd.C k29 q8 O7 i0.length i0 from by rw [Ny152.out, KA55.out]; exact Kd.C_drop (m := (y : Int).toNat) (c := D) ((Kd.R_reads' (Kd.R_after (ok := (fun k_ => some k_ ≠ (.slice G4 y0.length I4 : Value).ownBlock)) (zkR l) hg hat)).2.2) KL55.out ((Kd.R_reads' (Kd.R_after (ok := (fun k_ => some k_ ≠ (.slice G4 y0.length I4 : Value).ownBlock)) (zkR l) hg hat)).2.1)))
   have n0 := zK (ho)
   revert A B E I n0
   clear l U HB d5 E6
   intro l U HB d5 F7
   clear ho hb hg hat
   refine hK.out _ _ ⟨(zX HB V0:), (zX HB U0:), (zX HB T0:), (zX HB S0:)⟩ (fun hHeld => ?_)
   clear hK K
   refine zU 75 ?_
   refine zP 15 3 (bl 16 65535) HT_ ?_
   refine done_ (done_of HT_.out (by kernel_rfl)) ?_
   try go_wp2
   all_goals (go_roundg k2; (case measure => have := D3.out; have := E3.out; omega); (case rel => exact ⟨(d7), (wrap64 (a + 1)), zR, H', ⟨by have := D3.out; have := E3.out; omega⟩, ⟨Kd.R_mono (zlR F7.out) (fun _ hk => trivial)⟩, ⟨zB⟩⟩))
 rw [if_pos g5] at H
 have C7 := beq_iff_eq.mpr g5
 have D7 := bne_eq_false_iff_eq.mpr g5
 clear g5
 by_cases o5 : ((rd_T29 o (ji7)).f1) > ((rd_T29 q a).f1)
 · as_aux_lemma =>
   rw [if_pos o5] at H
   have G7 := z1 o5
   clear o5
   have H' := zK H
   clear H
   try go_wp2
   have A := zK (Kd.R_drew l.out)
   have B := zK (ze HB.out)
   revert A B
   clear l HB
   intro l HB
   have D1 : 0 ≤ ((ji7) : Int) := z3
   have E1 : (ji7) < (o.length : Int) := z3
   obtain ⟨u, G3, M0, N0, O0, R0⟩ := at_T29 (Kd.R_reads' l.out).2.2 (ji7) D1 E1
   cases G3
   replace D1 := eq_true D1
   replace E1 := eq_true E1
   have F1 : 0 ≤ (a : Int) := z3
   have G1 : a < (q.length : Int) := z3
   obtain ⟨x, I3, a0, b0, d0, e0⟩ := at_T29 R2.out a F1 G1
   have V1 := e0
   have X1 := d0
   have a2 := b0
   have b2 := a0
   cases I3
   (try replace a0 := zX HB a0)
   (try replace b0 := zX HB b0)
   (try replace d0 := zX HB d0)
   (try replace e0 := zX HB e0)
   replace F1 := eq_true F1
   replace G1 := eq_true G1
   have i2 : 0 ≤ ((ji7) : Int) := z3
   have j2 : (ji7) < (o.length : Int) := z3
   obtain ⟨p4, i5, L1, M1, N1, O1⟩ := at_T29 (Kd.R_reads' l.out).2.2 (ji7) i2 j2
   obtain rfl : u = p4 := (by injection i5)
   replace i2 := eq_true i2
   replace j2 := eq_true j2
   have l2 : 0 ≤ (a : Int) := z3
   have m2 : a < (q.length : Int) := z3
   obtain ⟨q4, j5, o0, p0, q0, t0⟩ := at_T29 R2.out a l2 m2
   have E2 := t0
   have F2 := q0
   have G2 := p0
   have I2 := o0
   obtain rfl : x = q4 := (by injection j5)
   (try replace o0 := zX HB o0)
   (try replace p0 := zX HB p0)
   (try replace q0 := zX HB q0)
   (try replace t0 := zX HB t0)
   replace l2 := eq_true l2
   replace m2 := eq_true m2
   have N3 : 0 ≤ ((ji7) : Int) := z3
   have O3 : (ji7) < (o.length : Int) := z3
   obtain ⟨t5, a6, J2, L2, M2, N2⟩ := at_T29 (Kd.R_reads' l.out).2.2 (ji7) N3 O3
   obtain rfl : u = t5 := (by injection a6)
   replace N3 := eq_true N3
   replace O3 := eq_true O3
   have R3 : 0 ≤ (a : Int) := z3
   have S3 : a < (q.length : Int) := z3
   obtain ⟨x5, b6, n1, o1, p1, q1⟩ := at_T29 R2.out a R3 S3
   have J4 := q1
   have L4 := p1
   have M4 := o1
   have N4 := n1
   obtain rfl : x = x5 := (by injection b6)
   (try replace n1 := zX HB n1)
   (try replace o1 := zX HB o1)
   (try replace p1 := zX HB p1)
   (try replace q1 := zX HB q1)
   replace R3 := eq_true R3
   replace S3 := eq_true S3
   refine start_ (n := 44) (S := fun w' => w'.cell? (u.add (((ji7)).toNat * 4)) = some (.int .i64 ((rd_T29 o (ji7)).f0)) ∧ w'.cell? ⟨(u.add (((ji7)).toNat * 4)).block, (u.add (((ji7)).toNat * 4)).off + 1, none⟩ = some (.int .i64 ((rd_T29 o (ji7)).f1)) ∧ w'.cell? ⟨(u.add (((ji7)).toNat * 4)).block, (u.add (((ji7)).toNat * 4)).off + 2, none⟩ = some (.int .i64 ((rd_T29 o (ji7)).f2)) ∧ w'.cell? ⟨(u.add (((ji7)).toNat * 4)).block, (u.add (((ji7)).toNat * 4)).off + 3, none⟩ = some (.bool ((rd_T29 o (ji7)).f3)) ∧ w'.cell? (x.add ((a).toNat * 4)) = some (.int .i64 ((rd_T29 q a).f0)) ∧ w'.cell? ⟨(x.add ((a).toNat * 4)).block, (x.add ((a).toNat * 4)).off + 1, none⟩ = some (.int .i64 ((rd_T29 q a).f1)) ∧ w'.cell? ⟨(x.add ((a).toNat * 4)).block, (x.add ((a).toNat * 4)).off + 2, none⟩ = some (.int .i64 ((rd_T29 q a).f2)) ∧ w'.cell? ⟨(x.add ((a).toNat * 4)).block, (x.add ((a).toNat * 4)).off + 3, none⟩ = some (.bool ((rd_T29 q a).f3)) ∧ w'.cell? (u.add (((ji7)).toNat * 4)) = some (.int .i64 ((rd_T29 o (ji7)).f0)) ∧ w'.cell? ⟨(u.add (((ji7)).toNat * 4)).block, (u.add (((ji7)).toNat * 4)).off + 1, none⟩ = some (.int .i64 ((rd_T29 o (ji7)).f1)) ∧ w'.cell? ⟨(u.add (((ji7)).toNat * 4)).block, (u.add (((ji7)).toNat * 4)).off + 2, none⟩ = some (.int .i64 ((rd_T29 o (ji7)).f2)) ∧ w'.cell? ⟨(u.add (((ji7)).toNat * 4)).block, (u.add (((ji7)).toNat * 4)).off + 3, none⟩ = some (.bool ((rd_T29 o (ji7)).f3)) ∧ w'.cell? (x.add ((a).toNat * 4)) = some (.int .i64 ((rd_T29 q a).f0)) ∧ w'.cell? ⟨(x.add ((a).toNat * 4)).block, (x.add ((a).toNat * 4)).off + 1, none⟩ = some (.int .i64 ((rd_T29 q a).f1)) ∧ w'.cell? ⟨(x.add ((a).toNat * 4)).block, (x.add ((a).toNat * 4)).off + 2, none⟩ = some (.int .i64 ((rd_T29 q a).f2)) ∧ w'.cell? ⟨(x.add ((a).toNat * 4)).block, (x.add ((a).toNat * 4)).off + 3, none⟩ = some (.bool ((rd_T29 q a).f3)) ∧ w'.cell? (u.add (((ji7)).toNat * 4)) = some (.int .i64 ((rd_T29 o (ji7)).f0)) ∧ w'.cell? ⟨(u.add (((ji7)).toNat * 4)).block, (u.add (((ji7)).toNat * 4)).off + 1, none⟩ = some (.int .i64 ((rd_T29 o (ji7)).f1)) ∧ w'.cell? ⟨(u.add (((ji7)).toNat * 4)).block, (u.add (((ji7)).toNat * 4)).off + 2, none⟩ = some (.int .i64 ((rd_T29 o (ji7)).f2)) ∧ w'.cell? ⟨(u.add (((ji7)).toNat * 4)).block, (u.add (((ji7)).toNat * 4)).off + 3, none⟩ = some (.bool ((rd_T29 o (ji7)).f3)) ∧ w'.cell? (x.add ((a).toNat * 4)) = some (.int .i64 ((rd_T29 q a).f0)) ∧ w'.cell? ⟨(x.add ((a).toNat * 4)).block, (x.add ((a).toNat * 4)).off + 1, none⟩ = some (.int .i64 ((rd_T29 q a).f1)) ∧ w'.cell? ⟨(x.add ((a).toNat * 4)).block, (x.add ((a).toNat * 4)).off + 2, none⟩ = some (.int .i64 ((rd_T29 q a).f2)) ∧ w'.cell? ⟨(x.add ((a).toNat * 4)).block, (x.add ((a).toNat * 4)).off + 3, none⟩ = some (.bool ((rd_T29 q a).f3))) (ds := []) (bl 44 0) (by kernel_rfl) rfl (by kernel_rfl) ⟨M0, N0, O0, R0, (zX HB b2:), (zX HB a2:), (zX HB X1:), (zX HB V1:), L1, M1, N1, O1, (zX HB I2:), (zX HB G2:), (zX HB F2:), (zX HB E2:), J2, L2, M2, N2, (zX HB N4:), (zX HB M4:), (zX HB L4:), (zX HB J4:)⟩ (fun hHeld => ?_); refine with_tabW spec_l19Sort.tab6 spec_l19Sort.bits6 (fun HT_ HW_ => ?_)
   generalize wr.drew = M9 at l HB M0 N0 O0 R0 a0 b0 d0 e0 L1 M1 N1 O1 o0 p0 q0 t0 J2 L2 M2 N2 n1 o1 p1 q1 hHeld ⊢
   refine zP 0 15 (bl 44 1) HT_ ?_
   refine zP 1 16 (bl 44 3) HT_ ?_
   refine zP 2 17 (bl 44 7) HT_ ?_
   refine zP 3 18 (bl 44 15) HT_ ?_
   refine zP 4 19 (bl 44 31) HT_ ?_
   refine zP 5 20 (bl 44 63) HT_ ?_
   refine zP 6 21 (bl 44 127) HT_ ?_
   refine zP 7 22 (bl 44 255) HT_ ?_
   refine zP 9 24 (bl 44 767) HT_ ?_
   refine zP 10 25 (bl 44 1791) HT_ ?_
   refine zP 11 26 (bl 44 3839) HT_ ?_
   refine zP 12 27 (bl 44 7935) HT_ ?_
   refine zT 8 23 (bl 44 8191) rfl rfl HT_ HW_ hHeld (by rintro w' ⟨s0, s1, s2, s3, s4, s5, s6, s7, s8, s9, n2, o2, q2, t2, x2, y2, a3, b3, c3, d3, e3, g3, i3, j3⟩; go_simp; with_reducible rfl) ?_
   refine zT 13 28 (bl 44 16383) rfl rfl HT_ HW_ hHeld (by rintro w' ⟨s0, s1, s2, s3, s4, s5, s6, s7, s8, s9, n2, o2, q2, t2, x2, y2, a3, b3, c3, d3, e3, g3, i3, j3⟩; go_simp; with_reducible rfl) ?_
   refine zP 14 29 (bl 44 32767) HT_ ?_
   refine zP 15 30 (bl 44 65535) HT_ ?_
   refine zP 16 31 (bl 44 131071) HT_ ?_
   refine zP 17 32 (bl 44 262143) HT_ ?_
   refine zP 18 33 (bl 44 524287) HT_ ?_
   refine zP 19 34 (bl 44 1048575) HT_ ?_
   refine zP 20 35 (bl 44 2097151) HT_ ?_
   refine zP 22 37 (bl 44 6291455) HT_ ?_
   refine zP 23 38 (bl 44 14680063) HT_ ?_
   refine zP 24 39 (bl 44 31457279) HT_ ?_
   refine zP 25 40 (bl 44 65011711) HT_ ?_
   refine zT 21 36 (bl 44 67108863) rfl rfl HT_ HW_ hHeld (by rintro w' ⟨s0, s1, s2, s3, s4, s5, s6, s7, s8, s9, n2, o2, q2, t2, x2, y2, a3, b3, c3, d3, e3, g3, i3, j3⟩; go_simp; with_reducible rfl) ?_
   refine zT 26 41 (bl 44 134217727) rfl rfl HT_ HW_ hHeld (by rintro w' ⟨s0, s1, s2, s3, s4, s5, s6, s7, s8, s9, n2, o2, q2, t2, x2, y2, a3, b3, c3, d3, e3, g3, i3, j3⟩; go_simp; with_reducible rfl) ?_
   refine zP 27 42 (bl 44 268435455) HT_ ?_
   refine zP 28 43 (bl 44 536870911) HT_ ?_
   refine zP 29 44 (bl 44 1073741823) HT_ ?_
   refine zP 30 45 (bl 44 2147483647) HT_ ?_
   refine zP 31 46 (bl 44 4294967295) HT_ ?_
   refine zP 32 47 (bl 44 8589934591) HT_ ?_
   refine zP 33 48 (bl 44 17179869183) HT_ ?_
   refine zP 35 50 (bl 44 51539607551) HT_ ?_
   refine zP 36 51 (bl 44 120259084287) HT_ ?_
   refine zP 37 52 (bl 44 257698037759) HT_ ?_
   refine zP 38 53 (bl 44 532575944703) HT_ ?_
   refine zT 34 49 (bl 44 549755813887) rfl rfl HT_ HW_ hHeld (by rintro w' ⟨s0, s1, s2, s3, s4, s5, s6, s7, s8, s9, n2, o2, q2, t2, x2, y2, a3, b3, c3, d3, e3, g3, i3, j3⟩; go_simp; with_reducible rfl) ?_
   refine zT 39 54 (bl 44 1099511627775) rfl rfl HT_ HW_ hHeld (by rintro w' ⟨s0, s1, s2, s3, s4, s5, s6, s7, s8, s9, n2, o2, q2, t2, x2, y2, a3, b3, c3, d3, e3, g3, i3, j3⟩; go_simp; with_reducible rfl) ?_
   refine zP 40 55 (bl 44 2199023255551) HT_ ?_
   refine zP 41 56 (bl 44 4398046511103) HT_ ?_
   refine zP 42 57 (bl 44 8796093022207) HT_ ?_
   refine zP 43 58 (bl 44 17592186044415) HT_ ?_
   refine done_ (done_of HT_.out (by kernel_rfl)) ?_
   try go_wp2
   go_roundg k2
   case measure => have := D3.out; have := E3.out; omega
   case rel => exact ⟨(ji7), (by first | rfl | (simp; done) | (simp only [← hji7] <;> (first | rfl | simp)) | (simp [*]; done)), H', ⟨by have := D3.out; have := E3.out; omega⟩, ⟨zkR l⟩, ⟨zB⟩⟩
 rw [if_neg o5] at H
 have G7 := z2 o5
 clear o5
 obtain ⟨e2, t4⟩ : ∃ y_ : List (S29), y_ = (([] : List (S29))) := ⟨_, rfl⟩
 replace H : (if 0 ≤ y then (if y ≤ (o.length : Int) then ((some (o.take (y : Int).toNat : List (S29))).bind fun E0 => (if e2.length + E0.length < 4398046511104 then ((some (e2 ++ E0 : List (S29))).bind fun j1 => ((some (([(⟨(rd_T29 q a).f0, (rd_T29 q a).f1, (rd_T29 q a).f2, (rd_T29 q a).f3⟩ : S29)] : List (S29)) : List (S29))).bind fun x0 => (if j1.length + x0.length < 4398046511104 then ((some (j1 ++ x0 : List (S29))).bind fun C0 => ((some (o.drop (y : Int).toNat : List (S29))).bind fun g0 => (if C0.length + g0.length < 4398046511104 then (spec_l19Sort.l0 k2 q (C0 ++ g0) (wrap64 (a + 1))) else (none)))) else (none)))) else (none))) else (none)) else (none)) = some r := by first | (rw [t4]; with_reducible exact H) | (have z := (Option.bind_some _ _).symm.trans H; rw [t4]; with_reducible exact z) | (have z := (Option.bind_some _ _).symm.trans H; with_reducible exact z) | with_reducible exact H | (rw [t4]; exact H) | exact H
 have Ny111 := zK t4
 clear t4
 by_cases F5 : 0 ≤ y
 rotate_left
 · rw [if_neg F5] at H
   exact absurd H (by simp)
 rw [if_pos F5] at H
 have d9 := eq_true F5
 have e9 := z1 F5
 clear F5
 by_cases G5 : y ≤ (o.length : Int)
 rotate_left
 · rw [if_neg G5] at H
   exact absurd H (by simp)
 rw [if_pos G5] at H
 have f9 := eq_true G5
 have g9 := z1 G5
 clear G5
 obtain ⟨E0, x4⟩ : ∃ y_ : List (S29), y_ = (o.take (y : Int).toNat) := ⟨_, rfl⟩
 replace H : (if e2.length + E0.length < 4398046511104 then ((some (e2 ++ E0 : List (S29))).bind fun j1 => ((some (([(⟨(rd_T29 q a).f0, (rd_T29 q a).f1, (rd_T29 q a).f2, (rd_T29 q a).f3⟩ : S29)] : List (S29)) : List (S29))).bind fun x0 => (if j1.length + x0.length < 4398046511104 then ((some (j1 ++ x0 : List (S29))).bind fun C0 => ((some (o.drop (y : Int).toNat : List (S29))).bind fun g0 => (if C0.length + g0.length < 4398046511104 then (spec_l19Sort.l0 k2 q (C0 ++ g0) (wrap64 (a + 1))) else (none)))) else (none)))) else (none)) = some r := by first | (rw [x4]; with_reducible exact H) | (have z := (Option.bind_some _ _).symm.trans H; rw [x4]; with_reducible exact z) | (have z := (Option.bind_some _ _).symm.trans H; with_reducible exact z) | with_reducible exact H | (rw [x4]; exact H) | exact H
 have Ny114 := zK x4
 clear x4
 by_cases G6 : e2.length + E0.length < 4398046511104
 rotate_left
 · rw [if_neg G6] at H
   exact absurd H (by simp)
 rw [if_pos G6] at H
 have LMc19 := zK G6
 clear G6
 obtain ⟨j1, y4⟩ : ∃ y_ : List (S29), y_ = (e2 ++ E0) := ⟨_, rfl⟩
 replace H : ((some (([(⟨(rd_T29 q a).f0, (rd_T29 q a).f1, (rd_T29 q a).f2, (rd_T29 q a).f3⟩ : S29)] : List (S29)) : List (S29))).bind fun x0 => (if j1.length + x0.length < 4398046511104 then ((some (j1 ++ x0 : List (S29))).bind fun C0 => ((some (o.drop (y : Int).toNat : List (S29))).bind fun g0 => (if C0.length + g0.length < 4398046511104 then (spec_l19Sort.l0 k2 q (C0 ++ g0) (wrap64 (a + 1))) else (none)))) else (none))) = some r := by first | (rw [y4]; with_reducible exact H) | (have z := (Option.bind_some _ _).symm.trans H; rw [y4]; with_reducible exact z) | (have z := (Option.bind_some _ _).symm.trans H; with_reducible exact z) | with_reducible exact H | (rw [y4]; exact H) | exact H
 have Ny118 := zK y4
 clear y4
 obtain ⟨x0, A4⟩ : ∃ y_ : List (S29), y_ = (([(⟨(rd_T29 q a).f0, (rd_T29 q a).f1, (rd_T29 q a).f2, (rd_T29 q a).f3⟩ : S29)] : List (S29))) := ⟨_, rfl⟩
 replace H : (if j1.length + x0.length < 4398046511104 then ((some (j1 ++ x0 : List (S29))).bind fun C0 => ((some (o.drop (y : Int).toNat : List (S29))).bind fun g0 => (if C0.length + g0.length < 4398046511104 then (spec_l19Sort.l0 k2 q (C0 ++ g0) (wrap64 (a + 1))) else (none)))) else (none)) = some r := by first | (rw [A4]; with_reducible exact H) | (have z := (Option.bind_some _ _).symm.trans H; rw [A4]; with_reducible exact z) | (have z := (Option.bind_some _ _).symm.trans H; with_reducible exact z) | with_reducible exact H | (rw [A4]; exact H) | exact H
 have Ny122 := zK A4
 clear A4
 by_cases I6 : j1.length + x0.length < 4398046511104
 rotate_left
 · rw [if_neg I6] at H
   exact absurd H (by simp)
 rw [if_pos I6] at H
 have LMc20 := zK I6
 clear I6
 obtain ⟨C0, B4⟩ : ∃ y_ : List (S29), y_ = (j1 ++ x0) := ⟨_, rfl⟩
 replace H : ((some (o.drop (y : Int).toNat : List (S29))).bind fun g0 => (if C0.length + g0.length < 4398046511104 then (spec_l19Sort.l0 k2 q (C0 ++ g0) (wrap64 (a + 1))) else (none))) = some r := by first | (rw [B4]; with_reducible exact H) | (have z := (Option.bind_some _ _).symm.trans H; rw [B4]; with_reducible exact z) | (have z := (Option.bind_some _ _).symm.trans H; with_reducible exact z) | with_reducible exact H | (rw [B4]; exact H) | exact H
 have Ny125 := zK B4
 clear B4
 have i9 := eq_true (z3 : 0 ≤ y)
 have j9 := eq_true (z3 : y ≤ (o.length : Int))
 obtain ⟨g0, C4⟩ : ∃ y_ : List (S29), y_ = (o.drop (y : Int).toNat) := ⟨_, rfl⟩
 replace H : (if C0.length + g0.length < 4398046511104 then (spec_l19Sort.l0 k2 q (C0 ++ g0) (wrap64 (a + 1))) else (none)) = some r := by first | (rw [C4]; with_reducible exact H) | (have z := (Option.bind_some _ _).symm.trans H; rw [C4]; with_reducible exact z) | (have z := (Option.bind_some _ _).symm.trans H; with_reducible exact z) | with_reducible exact H | (rw [C4]; exact H) | exact H
 have Ny128 := zK C4
 clear C4
 by_cases J6 : C0.length + g0.length < 4398046511104
 rotate_left
 · rw [if_neg J6] at H
   exact absurd H (by simp)
 rw [if_pos J6] at H
 have LMc23 := zK J6
 clear J6
 obtain ⟨l7, D4⟩ : ∃ y_ : List (S29), y_ = (C0 ++ g0) := ⟨_, rfl⟩
 replace H : (spec_l19Sort.l0 k2 q l7 (wrap64 (a + 1))) = some r := by first | (rw [D4]; with_reducible exact H) | (have z := (Option.bind_some _ _).symm.trans H; rw [D4]; with_reducible exact z) | (have z := (Option.bind_some _ _).symm.trans H; with_reducible exact z) | with_reducible exact H | (rw [D4]; exact H) | exact H
 have Ny132 := zK D4
 clear D4
 have H' := zK H
 clear H
 try go_wp2
 have A := zK (Kd.R_drew l.out)
 have B := zK (ze HB.out)
 revert A B
 clear l HB
 intro l HB
 have D1 : 0 ≤ ((ji7) : Int) := z3
 have E1 : (ji7) < (o.length : Int) := z3
 obtain ⟨u, G3, M0, N0, O0, R0⟩ := at_T29 (Kd.R_reads' l.out).2.2 (ji7) D1 E1
 cases G3
 replace D1 := eq_true D1
 replace E1 := eq_true E1
 have F1 : 0 ≤ (a : Int) := z3
 have G1 : a < (q.length : Int) := z3
 obtain ⟨x, I3, a0, b0, d0, e0⟩ := at_T29 R2.out a F1 G1
 have V1 := e0
 have X1 := d0
 have a2 := b0
 have b2 := a0
 cases I3
 (try replace a0 := zX HB a0)
 (try replace b0 := zX HB b0)
 (try replace d0 := zX HB d0)
 (try replace e0 := zX HB e0)
 replace F1 := eq_true F1
 replace G1 := eq_true G1
 have i2 : 0 ≤ ((ji7) : Int) := z3
 have j2 : (ji7) < (o.length : Int) := z3
 obtain ⟨p4, i5, L1, M1, N1, O1⟩ := at_T29 (Kd.R_reads' l.out).2.2 (ji7) i2 j2
 obtain rfl : u = p4 := (by injection i5)
 replace i2 := eq_true i2
 replace j2 := eq_true j2
 have l2 : 0 ≤ (a : Int) := z3
 have m2 : a < (q.length : Int) := z3
 obtain ⟨q4, j5, o0, p0, q0, t0⟩ := at_T29 R2.out a l2 m2
 have E2 := t0
 have F2 := q0
 have G2 := p0
 have I2 := o0
 obtain rfl : x = q4 := (by injection j5)
 (try replace o0 := zX HB o0)
 (try replace p0 := zX HB p0)
 (try replace q0 := zX HB q0)
 (try replace t0 := zX HB t0)
 replace l2 := eq_true l2
 replace m2 := eq_true m2
 have N3 : 0 ≤ ((ji7) : Int) := z3
 have O3 : (ji7) < (o.length : Int) := z3
 obtain ⟨t5, a6, J2, L2, M2, N2⟩ := at_T29 (Kd.R_reads' l.out).2.2 (ji7) N3 O3
 obtain rfl : u = t5 := (by injection a6)
 replace N3 := eq_true N3
 replace O3 := eq_true O3
 have R3 : 0 ≤ (a : Int) := z3
 have S3 : a < (q.length : Int) := z3
 obtain ⟨x5, b6, n1, o1, p1, q1⟩ := at_T29 R2.out a R3 S3
 have J4 := q1
 have L4 := p1
 have M4 := o1
 have N4 := n1
 obtain rfl : x = x5 := (by injection b6)
 (try replace n1 := zX HB n1)
 (try replace o1 := zX HB o1)
 (try replace p1 := zX HB p1)
 (try replace q1 := zX HB q1)
 replace R3 := eq_true R3
 replace S3 := eq_true S3
 refine start_ (n := 44) (S := fun w' => w'.cell? (u.add (((ji7)).toNat * 4)) = some (.int .i64 ((rd_T29 o (ji7)).f0)) ∧ w'.cell? ⟨(u.add (((ji7)).toNat * 4)).block, (u.add (((ji7)).toNat * 4)).off + 1, none⟩ = some (.int .i64 ((rd_T29 o (ji7)).f1)) ∧ w'.cell? ⟨(u.add (((ji7)).toNat * 4)).block, (u.add (((ji7)).toNat * 4)).off + 2, none⟩ = some (.int .i64 ((rd_T29 o (ji7)).f2)) ∧ w'.cell? ⟨(u.add (((ji7)).toNat * 4)).block, (u.add (((ji7)).toNat * 4)).off + 3, none⟩ = some (.bool ((rd_T29 o (ji7)).f3)) ∧ w'.cell? (x.add ((a).toNat * 4)) = some (.int .i64 ((rd_T29 q a).f0)) ∧ w'.cell? ⟨(x.add ((a).toNat * 4)).block, (x.add ((a).toNat * 4)).off + 1, none⟩ = some (.int .i64 ((rd_T29 q a).f1)) ∧ w'.cell? ⟨(x.add ((a).toNat * 4)).block, (x.add ((a).toNat * 4)).off + 2, none⟩ = some (.int .i64 ((rd_T29 q a).f2)) ∧ w'.cell? ⟨(x.add ((a).toNat * 4)).block, (x.add ((a).toNat * 4)).off + 3, none⟩ = some (.bool ((rd_T29 q a).f3)) ∧ w'.cell? (u.add (((ji7)).toNat * 4)) = some (.int .i64 ((rd_T29 o (ji7)).f0)) ∧ w'.cell? ⟨(u.add (((ji7)).toNat * 4)).block, (u.add (((ji7)).toNat * 4)).off + 1, none⟩ = some (.int .i64 ((rd_T29 o (ji7)).f1)) ∧ w'.cell? ⟨(u.add (((ji7)).toNat * 4)).block, (u.add (((ji7)).toNat * 4)).off + 2, none⟩ = some (.int .i64 ((rd_T29 o (ji7)).f2)) ∧ w'.cell? ⟨(u.add (((ji7)).toNat * 4)).block, (u.add (((ji7)).toNat * 4)).off + 3, none⟩ = some (.bool ((rd_T29 o (ji7)).f3)) ∧ w'.cell? (x.add ((a).toNat * 4)) = some (.int .i64 ((rd_T29 q a).f0)) ∧ w'.cell? ⟨(x.add ((a).toNat * 4)).block, (x.add ((a).toNat * 4)).off + 1, none⟩ = some (.int .i64 ((rd_T29 q a).f1)) ∧ w'.cell? ⟨(x.add ((a).toNat * 4)).block, (x.add ((a).toNat * 4)).off + 2, none⟩ = some (.int .i64 ((rd_T29 q a).f2)) ∧ w'.cell? ⟨(x.add ((a).toNat * 4)).block, (x.add ((a).toNat * 4)).off + 3, none⟩ = some (.bool ((rd_T29 q a).f3)) ∧ w'.cell? (u.add (((ji7)).toNat * 4)) = some (.int .i64 ((rd_T29 o (ji7)).f0)) ∧ w'.cell? ⟨(u.add (((ji7)).toNat * 4)).block, (u.add (((ji7)).toNat * 4)).off + 1, none⟩ = some (.int .i64 ((rd_T29 o (ji7)).f1)) ∧ w'.cell? ⟨(u.add (((ji7)).toNat * 4)).block, (u.add (((ji7)).toNat * 4)).off + 2, none⟩ = some (.int .i64 ((rd_T29 o (ji7)).f2)) ∧ w'.cell? ⟨(u.add (((ji7)).toNat * 4)).block, (u.add (((ji7)).toNat * 4)).off + 3, none⟩ = some (.bool ((rd_T29 o (ji7)).f3)) ∧ w'.cell? (x.add ((a).toNat * 4)) = some (.int .i64 ((rd_T29 q a).f0)) ∧ w'.cell? ⟨(x.add ((a).toNat * 4)).block, (x.add ((a).toNat * 4)).off + 1, none⟩ = some (.int .i64 ((rd_T29 q a).f1)) ∧ w'.cell? ⟨(x.add ((a).toNat * 4)).block, (x.add ((a).toNat * 4)).off + 2, none⟩ = some (.int .i64 ((rd_T29 q a).f2)) ∧ w'.cell? ⟨(x.add ((a).toNat * 4)).block, (x.add ((a).toNat * 4)).off + 3, none⟩ = some (.bool ((rd_T29 q a).f3))) (ds := []) (bl 44 0) (by kernel_rfl) rfl (by kernel_rfl) ⟨M0, N0, O0, R0, (zX HB b2:), (zX HB a2:), (zX HB X1:), (zX HB V1:), L1, M1, N1, O1, (zX HB I2:), (zX HB G2:), (zX HB F2:), (zX HB E2:), J2, L2, M2, N2, (zX HB N4:), (zX HB M4:), (zX HB L4:), (zX HB J4:)⟩ (fun hHeld => ?_); refine with_tabW spec_l19Sort.tab6 spec_l19Sort.bits6 (fun HT_ HW_ => ?_)
 generalize wr.drew = t8 at l HB M0 N0 O0 R0 a0 b0 d0 e0 L1 M1 N1 O1 o0 p0 q0 t0 J2 L2 M2 N2 n1 o1 p1 q1 hHeld ⊢
 refine zP 0 15 (bl 44 1) HT_ ?_
 refine zP 1 16 (bl 44 3) HT_ ?_
 refine zP 2 17 (bl 44 7) HT_ ?_
 refine zP 3 18 (bl 44 15) HT_ ?_
 refine zP 4 19 (bl 44 31) HT_ ?_
 refine zP 5 20 (bl 44 63) HT_ ?_
 refine zP 6 21 (bl 44 127) HT_ ?_
 refine zP 7 22 (bl 44 255) HT_ ?_
 refine zP 9 24 (bl 44 767) HT_ ?_
 refine zP 10 25 (bl 44 1791) HT_ ?_
 refine zP 11 26 (bl 44 3839) HT_ ?_
 refine zP 12 27 (bl 44 7935) HT_ ?_
 refine zT 8 23 (bl 44 8191) rfl rfl HT_ HW_ hHeld (by rintro w' ⟨s0, s1, s2, s3, s4, s5, s6, s7, s8, s9, n2, o2, q2, t2, x2, y2, a3, b3, c3, d3, e3, g3, i3, j3⟩; go_simp; with_reducible rfl) ?_
 refine zT 13 28 (bl 44 16383) rfl rfl HT_ HW_ hHeld (by rintro w' ⟨s0, s1, s2, s3, s4, s5, s6, s7, s8, s9, n2, o2, q2, t2, x2, y2, a3, b3, c3, d3, e3, g3, i3, j3⟩; go_simp; with_reducible rfl) ?_
 refine zP 14 29 (bl 44 32767) HT_ ?_
 refine zP 15 30 (bl 44 65535) HT_ ?_
 refine zP 16 31 (bl 44 131071) HT_ ?_
 refine zP 17 32 (bl 44 262143) HT_ ?_
 refine zP 18 33 (bl 44 524287) HT_ ?_
 refine zP 19 34 (bl 44 1048575) HT_ ?_
 refine zP 20 35 (bl 44 2097151) HT_ ?_
 refine zP 22 37 (bl 44 6291455) HT_ ?_
 refine zP 23 38 (bl 44 14680063) HT_ ?_
 refine zP 24 39 (bl 44 31457279) HT_ ?_
 refine zP 25 40 (bl 44 65011711) HT_ ?_
 refine zT 21 36 (bl 44 67108863) rfl rfl HT_ HW_ hHeld (by rintro w' ⟨s0, s1, s2, s3, s4, s5, s6, s7, s8, s9, n2, o2, q2, t2, x2, y2, a3, b3, c3, d3, e3, g3, i3, j3⟩; go_simp; with_reducible rfl) ?_
 refine zT 26 41 (bl 44 134217727) rfl rfl HT_ HW_ hHeld (by rintro w' ⟨s0, s1, s2, s3, s4, s5, s6, s7, s8, s9, n2, o2, q2, t2, x2, y2, a3, b3, c3, d3, e3, g3, i3, j3⟩; go_simp; with_reducible rfl) ?_
 refine zP 27 42 (bl 44 268435455) HT_ ?_
 refine zP 28 43 (bl 44 536870911) HT_ ?_
 refine zP 29 44 (bl 44 1073741823) HT_ ?_
 refine zP 30 45 (bl 44 2147483647) HT_ ?_
 refine zP 31 46 (bl 44 4294967295) HT_ ?_
 refine zP 32 47 (bl 44 8589934591) HT_ ?_
 refine zP 33 48 (bl 44 17179869183) HT_ ?_
 refine zP 35 50 (bl 44 51539607551) HT_ ?_
 refine zP 36 51 (bl 44 120259084287) HT_ ?_
 refine zP 37 52 (bl 44 257698037759) HT_ ?_
 refine zP 38 53 (bl 44 532575944703) HT_ ?_
 refine zT 34 49 (bl 44 549755813887) rfl rfl HT_ HW_ hHeld (by rintro w' ⟨s0, s1, s2, s3, s4, s5, s6, s7, s8, s9, n2, o2, q2, t2, x2, y2, a3, b3, c3, d3, e3, g3, i3, j3⟩; go_simp; with_reducible rfl) ?_
 refine zT 39 54 (bl 44 1099511627775) rfl rfl HT_ HW_ hHeld (by rintro w' ⟨s0, s1, s2, s3, s4, s5, s6, s7, s8, s9, n2, o2, q2, t2, x2, y2, a3, b3, c3, d3, e3, g3, i3, j3⟩; go_simp; with_reducible rfl) ?_
 refine zP 40 55 (bl 44 2199023255551) HT_ ?_
 refine zP 41 56 (bl 44 4398046511103) HT_ ?_
 refine zP 42 57 (bl 44 8796093022207) HT_ ?_
 refine zP 43 58 (bl 44 17592186044415) HT_ ?_
 refine done_ (done_of HT_.out (by kernel_rfl)) ?_
 try go_wp2
 have A := zK (Kd.R_drew l.out)
 have B := zK (ze HB.out)
 revert A B
 clear l HB
 intro l HB
 have m7 : (y : Int) ≤ ((o.length : Int) : Int) := z3
 obtain ⟨A9, L6, _, hsz26, _⟩ := info_parts info29
 have hroom26 : o.length ≤ D := (Kd.R_reads' l.out).2.1
 have hC26 : Kd.C k29 _ (some u) o.length o := (Kd.R_reads' l.out).2.2
 have hcut26 := cut_to (P := Try.prog) 22 29 .i64 Try.underlying22 L6 (some u) o.length D y (z3) m7 hroom26
 have d6 := Kd.C_take (m := (y : Int).toNat) hC26 (by omega)
 have e6 : E0.length = (y : Int).toNat := (by rw [Ny114.out, List.length_take]; omega)
 rw [← Ny114.out] at d6
 rw [← e6] at hcut26
 have O := zK d6
 have l9 := zK (show E0.length ≤ D from by omega)
 clear d6 hC26 hroom26 L6 hsz26
 have KY26 := zK e6
 clear e6
 have KL26 := zK (show (y : Int).toNat ≤ o.length from by omega)
 replace m7 := eq_true m7
 have f6 : 0 ≤ (a : Int) := z3
 have g6 : a < (q.length : Int) := z3
 obtain ⟨I7, a8, y3, A3, B3, C3⟩ := at_T29 R2.out a f6 g6
 have X0 := C3
 have a1 := B3
 have b1 := A3
 have d1 := y3
 obtain rfl : x = I7 := (by injection a8)
 (try replace y3 := zX HB y3)
 (try replace A3 := zX HB A3)
 (try replace B3 := zX HB B3)
 (try replace C3 := zX HB C3)
 replace f6 := eq_true f6
 replace g6 := eq_true g6
 refine start_ (n := 16) (S := fun w' => w'.cell? (x.add ((a).toNat * 4)) = some (.int .i64 ((rd_T29 q a).f0)) ∧ w'.cell? ⟨(x.add ((a).toNat * 4)).block, (x.add ((a).toNat * 4)).off + 1, none⟩ = some (.int .i64 ((rd_T29 q a).f1)) ∧ w'.cell? ⟨(x.add ((a).toNat * 4)).block, (x.add ((a).toNat * 4)).off + 2, none⟩ = some (.int .i64 ((rd_T29 q a).f2)) ∧ w'.cell? ⟨(x.add ((a).toNat * 4)).block, (x.add ((a).toNat * 4)).off + 3, none⟩ = some (.bool ((rd_T29 q a).f3))) (ds := []) (bl 16 0) (by kernel_rfl) rfl (by kernel_rfl) ⟨(zX HB d1:), (zX HB b1:), (zX HB a1:), (zX HB X0:)⟩ (fun hHeld => ?_); refine with_tabW spec_l19Sort.tab8 spec_l19Sort.bits8 (fun HT_ HW_ => ?_)
 generalize t8.drew = N9 at l HB O y3 A3 B3 C3 hHeld ⊢
 refine zP 1 62 (bl 16 2) HT_ ?_
 refine zP 2 63 (bl 16 6) HT_ ?_
 refine zP 3 64 (bl 16 14) HT_ ?_
 refine zP 5 66 (bl 16 46) HT_ ?_
 refine zP 6 67 (bl 16 110) HT_ ?_
 refine zP 7 68 (bl 16 238) HT_ ?_
 refine zP 11 72 (bl 16 2286) HT_ ?_
 refine zP 12 73 (bl 16 6382) HT_ ?_
 refine zP 13 74 (bl 16 14574) HT_ ?_
 refine zT 8 69 (bl 16 14830) rfl rfl HT_ HW_ hHeld (by rintro w' ⟨s0, s1, s2, s3⟩; go_simp; with_reducible rfl) ?_
 refine join_ (σ := Value × Value × Value) 3 (bl 16 15359) (fun s_ => [(61, s_.1), (65, s_.2.1), (70, s_.2.2)]) (fun s_ w' => (w'.cell? (x.add ((a).toNat * 4)) = some (.int .i64 ((rd_T29 q a).f0)) ∧ w'.cell? ⟨(x.add ((a).toNat * 4)).block, (x.add ((a).toNat * 4)).off + 1, none⟩ = some (.int .i64 ((rd_T29 q a).f1)) ∧ w'.cell? ⟨(x.add ((a).toNat * 4)).block, (x.add ((a).toNat * 4)).off + 2, none⟩ = some (.int .i64 ((rd_T29 q a).f2)) ∧ w'.cell? ⟨(x.add ((a).toNat * 4)).block, (x.add ((a).toNat * 4)).off + 3, none⟩ = some (.bool ((rd_T29 q a).f3))) ∧ (Kd.R k29 29 w' w.heap.size (fun k_ => some k_ ≠ (s_.2.2 : Value).ownBlock ∧ some k_ ≠ (.slice (some u) o.length D : Value).ownBlock) s_.2.1 j1) ∧ (Kd.R k29 29 w' w.heap.size (fun k_ => some k_ ≠ (s_.2.1 : Value).ownBlock ∧ some k_ ≠ (.slice (some u) o.length D : Value).ownBlock) s_.2.2 x0) ∧ (Kd.R k29 29 w' w.heap.size (fun k_ => some k_ ≠ (s_.2.1 : Value).ownBlock ∧ some k_ ≠ (s_.2.2 : Value).ownBlock) (.slice (some u) o.length D) o) ∧ (Below w.heap.size w w')) ?_ ?_
 rotate_left
 · as_aux_lemma =>
   intro hCont
   refine two_ (i := 0) (j := 9) (Ni := some 61) (Nj := some 70) (bl 16 14831) (bl 16 15342) rfl rfl rfl rfl (two_of HT_.out (by kernel_rfl)) (by decide) (by decide) (fun K hK => ?_) (fun K hK => ?_)
   · as_aux_lemma =>
     skip
     refine Kd.R_lit_step k29 _ 29 ?hg (N := 61) ?hd (xs := ([] : List (S29))) (inner := []) (ok := fun _ => True) (okp := fun _ => True) ?hr ?hp (fun _ hk => hk) trivial (Below.refl _ _) (Nat.le_refl _) (by simp) ?_; (case hd => rfl); (case hg => rfl); (case hr => first | (go_simp; done) | (go_simp; rfl)); (case hp => exact (Reps.none _ _))
     intro v112 x8 d2 hb hg_ hnew_
     clear hg_ hnew_
     (first | rw [← Ny111.out] at d2 | (simp only [Int.reduceToNat] at d2; rw [← Ny111.out] at d2))
     have A := zK (Kd.R_elder' (zkR l) (Kd.R_base d2) hb)
     have B := zK (Kd.R_lower (Kd.R_new' d2 (Kd.R_lt (zkR l))) (zz zB))
     have E := zK (z4 (by repeat (first | (with_reducible exact O.out) | (with_reducible refine Kd.C_alloc ?_ _) | (with_reducible refine Kd.C_drewN ?_ _) | (with_reducible refine Kd.C_drew ?_) | exact O.out)) hb)
     have I := z8 hb
     revert A B E I
     clear l O HB
     intro l T1 O HB
     clear hb d2
     refine hK.out _ _ ⟨(zX HB d1:), (zX HB b1:), (zX HB a1:), (zX HB X0:)⟩ (fun hHeld => ?_)
     clear hK K
     refine zU 61 ?_
     refine two_ (i := 4) (j := 9) (Ni := some 65) (Nj := some 70) (bl 16 14847) (bl 16 15343) rfl rfl rfl rfl (two_of HT_.out (by kernel_rfl)) (by decide) (by decide) (fun K hK => ?_) (fun K hK => ?_)
     · as_aux_lemma =>
       skip
       refine Kd.R_append_rows_step k29 (w0 := w) w.heap.size (by rfl) (.tmp 61) (.tmp 64) 22 29 (.agg #[(.int .i64 0), (.int .i64 0), (.int .i64 0), (.bool false)]) 32 rfl Try.underlying22 info29 rfl (by decide) (by omega) v112 e2 E0 _ _ _ (fun k_ => some k_ ≠ (.slice (some u) o.length D : Value).ownBlock) (fun _ => False) rfl rfl ?aO ?aR (fun _ _ h => h) (fun _ h => h.elim) ?aF ?aB ?aS ?aL ?_
       (case aR => repeat (first | exact (by repeat (first | (with_reducible exact O.out) | (with_reducible refine Kd.C_alloc ?_ _) | (with_reducible refine Kd.C_drewN ?_ _) | (with_reducible refine Kd.C_drew ?_) | exact O.out)) | (with_reducible refine Kd.C_alloc ?_ _) | (with_reducible refine Kd.C_drewN ?_ _) | (with_reducible refine Kd.C_drew ?_)))
       (case aB => exact zB)
       (case aF => exact (fun k_ hk => Kd.fresh' (Kd.R_lt (zkR l)) k_ hk))
       (case aO => exact (Kd.R_mono (zlR T1.out) (fun _ hk => hk.2)))
       (case aS => exact (zz zB))
       (case aL => have := LMc19.out; omega)
       intro v119 n7 ho hb hg hat
       rw [← Ny118.out] at ho
       have A := zK (Kd.R_after (ok := (fun _ => True)) (zkR l) hg hat)
       have B := zK (hb)
       have E := zK ((show Kd.C k29 n7 (some u) E0.length E0 from by rw [Ny114.out]; exact Kd.C_take (m := (y : Int).toNat) ((Kd.R_reads' (Kd.R_after (ok := (fun _ => True)) (zkR l) hg hat)).2.2) KL26.out))
       have I := zK (ho)
       revert A B E I
       clear l HB O T1
       intro l HB O y1
       clear ho hb hg hat
       refine hK.out _ _ ⟨(zX HB d1:), (zX HB b1:), (zX HB a1:), (zX HB X0:)⟩ (fun hHeld => ?_)
       clear hK K
       refine zU 65 ?_
       refine one_ (i := 9) (N := some 70) (bl 16 15359) rfl rfl (one_of HT_.out (by kernel_rfl)) (by decide) (fun K hK => ?_)
       refine Kd.R_lit_step k29 _ 29 ?hg (N := 70) ?hd (xs := ([(⟨(rd_T29 q a).f0, (rd_T29 q a).f1, (rd_T29 q a).f2, (rd_T29 q a).f3⟩ : S29)] : List (S29))) (inner := [.int .i64 ((rd_T29 q a).f0), .int .i64 ((rd_T29 q a).f1), .int .i64 ((rd_T29 q a).f2), .bool ((rd_T29 q a).f3)]) (ok := fun _ => True) (okp := fun _ => True) ?hr ?hp (fun _ hk => hk) trivial (Below.refl _ _) (Nat.le_refl _) (by simp) ?_; (case hd => rfl); (case hg => rfl); (case hr => first | (go_simp; done) | (go_simp; rfl)); (case hp => exact (Reps.c4 (show Kd.M k29 _ _ _ (⟨(rd_T29 q a).f0, (rd_T29 q a).f1, (rd_T29 q a).f2, (rd_T29 q a).f3⟩ : S29) [.int .i64 ((rd_T29 q a).f0), .int .i64 ((rd_T29 q a).f1), .int .i64 ((rd_T29 q a).f2), .bool ((rd_T29 q a).f3)] from (k29_mkM _ _ _ (⟨(rd_T29 q a).f0, (rd_T29 q a).f1, (rd_T29 q a).f2, (rd_T29 q a).f3⟩ : S29) )) (Reps.none _ _)))
       intro v123 O9 T3 hb hg_ hnew_
       clear hg_ hnew_
       (first | rw [← Ny122.out] at T3 | (simp only [Int.reduceToNat] at T3; rw [← Ny122.out] at T3))
       have A := zK (Kd.R_elder' (zkR l) (Kd.R_base T3) hb)
       have B := zK (Kd.R_elder' (zkR y1) (Kd.R_base T3) hb)
       have E := zK (Kd.R_lower (Kd.R_new' (Kd.R_new' T3 (Kd.R_lt (zkR l))) (Kd.R_lt (zkR y1))) (zz zB))
       have I := zK (z4 (by repeat (first | (with_reducible exact O.out) | (with_reducible refine Kd.C_alloc ?_ _) | (with_reducible refine Kd.C_drewN ?_ _) | (with_reducible refine Kd.C_drew ?_) | exact O.out)) hb)
       have n0 := z8 hb
       revert A B E I n0
       clear l y1 O HB
       intro l y1 X O HB
       clear hb T3
       refine hK.out _ _ ⟨(zX HB d1:), (zX HB b1:), (zX HB a1:), (zX HB X0:)⟩ (fun hHeld => ?_)
       clear hK K
       refine zU 70 ?_
       exact norm_ (by simp only [putAll, Act.put, zq1, zq2, zq3]) (hCont (v112, v119, v123) _ ⟨hHeld, (Kd.R_mono (zlR y1.out) (fun _ hk => ⟨hk.2, hk.1⟩)), (Kd.R_mono (zlR X.out) (fun _ hk => ⟨hk.2, hk.1.2⟩)), (Kd.R_mono (zlR l.out) (fun _ hk => ⟨hk.1.2, hk.2⟩)), zB⟩)
     · as_aux_lemma =>
       skip
       refine Kd.R_lit_step k29 _ 29 ?hg (N := 70) ?hd (xs := ([(⟨(rd_T29 q a).f0, (rd_T29 q a).f1, (rd_T29 q a).f2, (rd_T29 q a).f3⟩ : S29)] : List (S29))) (inner := [.int .i64 ((rd_T29 q a).f0), .int .i64 ((rd_T29 q a).f1), .int .i64 ((rd_T29 q a).f2), .bool ((rd_T29 q a).f3)]) (ok := fun _ => True) (okp := fun _ => True) ?hr ?hp (fun _ hk => hk) trivial (Below.refl _ _) (Nat.le_refl _) (by simp) ?_; (case hd => rfl); (case hg => rfl); (case hr => first | (go_simp; done) | (go_simp; rfl)); (case hp => exact (Reps.c4 (show Kd.M k29 _ _ _ (⟨(rd_T29 q a).f0, (rd_T29 q a).f1, (rd_T29 q a).f2, (rd_T29 q a).f3⟩ : S29) [.int .i64 ((rd_T29 q a).f0), .int .i64 ((rd_T29 q a).f1), .int .i64 ((rd_T29 q a).f2), .bool ((rd_T29 q a).f3)] from (k29_mkM _ _ _ (⟨(rd_T29 q a).f0, (rd_T29 q a).f1, (rd_T29 q a).f2, (rd_T29 q a).f3⟩ : S29) )) (Reps.none _ _)))
       intro v123 n7 J1 hb hg_ hnew_
       clear hg_ hnew_
       (first | rw [← Ny122.out] at J1 | (simp only [Int.reduceToNat] at J1; rw [← Ny122.out] at J1))
       have A := zK (Kd.R_elder' (zkR l) (Kd.R_base J1) hb)
       have B := zK (Kd.R_elder' (zkR T1) (Kd.R_base J1) hb)
       have E := zK (Kd.R_lower (Kd.R_new' (Kd.R_new' J1 (Kd.R_lt (zkR l))) (Kd.R_lt (zkR T1))) (zz zB))
       have I := zK (z4 (by repeat (first | (with_reducible exact O.out) | (with_reducible refine Kd.C_alloc ?_ _) | (with_reducible refine Kd.C_drewN ?_ _) | (with_reducible refine Kd.C_drew ?_) | exact O.out)) hb)
       have n0 := z8 hb
       revert A B E I n0
       clear l T1 O HB
       intro l T1 X O HB
       clear hb J1
       refine hK.out _ _ ⟨(zX HB d1:), (zX HB b1:), (zX HB a1:), (zX HB X0:)⟩ (fun hHeld => ?_)
       clear hK K
       refine zU 70 ?_
       refine one_ (i := 4) (N := some 65) (bl 16 15359) rfl rfl (one_of HT_.out (by kernel_rfl)) (by decide) (fun K hK => ?_)
       refine Kd.R_append_rows_step k29 (w0 := w) w.heap.size (by rfl) (.tmp 61) (.tmp 64) 22 29 (.agg #[(.int .i64 0), (.int .i64 0), (.int .i64 0), (.bool false)]) 32 rfl Try.underlying22 info29 rfl (by decide) (by omega) v112 e2 E0 _ _ _ (fun k_ => some k_ ≠ (.slice (some u) o.length D : Value).ownBlock ∧ some k_ ≠ (v123 : Value).ownBlock) (fun _ => False) rfl rfl ?aO ?aR (fun _ _ h => h) (fun _ h => h.elim) ?aF ?aB ?aS ?aL ?_
       (case aR => repeat (first | exact (by repeat (first | (with_reducible exact O.out) | (with_reducible refine Kd.C_alloc ?_ _) | (with_reducible refine Kd.C_drewN ?_ _) | (with_reducible refine Kd.C_drew ?_) | exact O.out)) | (with_reducible refine Kd.C_alloc ?_ _) | (with_reducible refine Kd.C_drewN ?_ _) | (with_reducible refine Kd.C_drew ?_)))
       (case aB => exact zB)
       (case aF => exact (fun k_ hk => ⟨Kd.fresh' (Kd.R_lt (zkR l)) k_ hk, Kd.fresh' (Kd.R_lt (zkR X)) k_ hk⟩))
       (case aO => exact (Kd.R_mono (zlR T1.out) (fun _ hk => ⟨hk.1.2, hk.2⟩)))
       (case aS => exact (zz zB))
       (case aL => have := LMc19.out; omega)
       intro v119 o7 ho hb hg hat
       rw [← Ny118.out] at ho
       have A := zK (Kd.R_after (ok := (fun k_ => some k_ ≠ (v123 : Value).ownBlock)) (Kd.R_mono (zlR l.out) (fun _ hk => ⟨hk.2, hk.1.2⟩)) hg hat)
       have B := zK (Kd.R_after (ok := (fun k_ => some k_ ≠ (.slice (some u) o.length D : Value).ownBlock)) (Kd.R_mono (zlR X.out) (fun _ hk => ⟨hk.1.2, hk.2⟩)) hg hat)
       have E := zK (hb)
       have I := zK ((show Kd.C k29 o7 (some u) E0.length E0 from by rw [Ny114.out]; exact Kd.C_take (m := (y : Int).toNat) ((Kd.R_reads' (Kd.R_after (ok := (fun k_ => some k_ ≠ (v123 : Value).ownBlock)) (Kd.R_mono (zlR l.out) (fun _ hk => ⟨hk.2, hk.1.2⟩)) hg hat)).2.2) KL26.out))
       have n0 := zK (ho)
       revert A B E I n0
       clear l X HB O T1
       intro l X HB O y1
       clear ho hb hg hat
       refine hK.out _ _ ⟨(zX HB d1:), (zX HB b1:), (zX HB a1:), (zX HB X0:)⟩ (fun hHeld => ?_)
       clear hK K
       refine zU 65 ?_
       exact norm_ (by simp only [putAll, Act.put, zq1, zq2, zq3]) (hCont (v112, v119, v123) _ ⟨hHeld, (Kd.R_mono (zlR y1.out) (fun _ hk => ⟨hk.2, hk.1⟩)), (Kd.R_mono (zlR X.out) (fun _ hk => ⟨hk.2, hk.1⟩)), (Kd.R_mono (zlR l.out) (fun _ hk => ⟨hk.2, hk.1⟩)), zB⟩)
   · as_aux_lemma =>
     skip
     refine Kd.R_lit_step k29 _ 29 ?hg (N := 70) ?hd (xs := ([(⟨(rd_T29 q a).f0, (rd_T29 q a).f1, (rd_T29 q a).f2, (rd_T29 q a).f3⟩ : S29)] : List (S29))) (inner := [.int .i64 ((rd_T29 q a).f0), .int .i64 ((rd_T29 q a).f1), .int .i64 ((rd_T29 q a).f2), .bool ((rd_T29 q a).f3)]) (ok := fun _ => True) (okp := fun _ => True) ?hr ?hp (fun _ hk => hk) trivial (Below.refl _ _) (Nat.le_refl _) (by simp) ?_; (case hd => rfl); (case hg => rfl); (case hr => first | (go_simp; done) | (go_simp; rfl)); (case hp => exact (Reps.c4 (show Kd.M k29 _ _ _ (⟨(rd_T29 q a).f0, (rd_T29 q a).f1, (rd_T29 q a).f2, (rd_T29 q a).f3⟩ : S29) [.int .i64 ((rd_T29 q a).f0), .int .i64 ((rd_T29 q a).f1), .int .i64 ((rd_T29 q a).f2), .bool ((rd_T29 q a).f3)] from (k29_mkM _ _ _ (⟨(rd_T29 q a).f0, (rd_T29 q a).f1, (rd_T29 q a).f2, (rd_T29 q a).f3⟩ : S29) )) (Reps.none _ _)))
     intro v123 x8 d2 hb hg_ hnew_
     clear hg_ hnew_
     (first | rw [← Ny122.out] at d2 | (simp only [Int.reduceToNat] at d2; rw [← Ny122.out] at d2))
     have A := zK (Kd.R_elder' (zkR l) (Kd.R_base d2) hb)
     have B := zK (Kd.R_lower (Kd.R_new' d2 (Kd.R_lt (zkR l))) (zz zB))
     have E := zK (z4 (by repeat (first | (with_reducible exact O.out) | (with_reducible refine Kd.C_alloc ?_ _) | (with_reducible refine Kd.C_drewN ?_ _) | (with_reducible refine Kd.C_drew ?_) | exact O.out)) hb)
     have I := z8 hb
     revert A B E I
     clear l O HB
     intro l X O HB
     clear hb d2
     refine hK.out _ _ ⟨(zX HB d1:), (zX HB b1:), (zX HB a1:), (zX HB X0:)⟩ (fun hHeld => ?_)
     clear hK K
     refine zU 70 ?_
     refine one_ (i := 0) (N := some 61) (bl 16 15343) rfl rfl (one_of HT_.out (by kernel_rfl)) (by decide) (fun K hK => ?_)
     refine Kd.R_lit_step k29 _ 29 ?hg (N := 61) ?hd (xs := ([] : List (S29))) (inner := []) (ok := fun _ => True) (okp := fun _ => True) ?hr ?hp (fun _ hk => hk) trivial (Below.refl _ _) (Nat.le_refl _) (by simp) ?_; (case hd => rfl); (case hg => rfl); (case hr => first | (go_simp; done) | (go_simp; rfl)); (case hp => exact (Reps.none _ _))
     intro v112 n7 J1 hb hg_ hnew_
     clear hg_ hnew_
     (first | rw [← Ny111.out] at J1 | (simp only [Int.reduceToNat] at J1; rw [← Ny111.out] at J1))
     have A := zK (Kd.R_elder' (zkR l) (Kd.R_base J1) hb)
     have B := zK (Kd.R_elder' (zkR X) (Kd.R_base J1) hb)
     have E := zK (Kd.R_lower (Kd.R_new' (Kd.R_new' J1 (Kd.R_lt (zkR l))) (Kd.R_lt (zkR X))) (zz zB))
     have I := zK (z4 (by repeat (first | (with_reducible exact O.out) | (with_reducible refine Kd.C_alloc ?_ _) | (with_reducible refine Kd.C_drewN ?_ _) | (with_reducible refine Kd.C_drew ?_) | exact O.out)) hb)
     have n0 := z8 hb
     revert A B E I n0
     clear l X O HB
     intro l X T1 O HB
     clear hb J1
     refine hK.out _ _ ⟨(zX HB d1:), (zX HB b1:), (zX HB a1:), (zX HB X0:)⟩ (fun hHeld => ?_)
     clear hK K
     refine zU 61 ?_
     refine one_ (i := 4) (N := some 65) (bl 16 15359) rfl rfl (one_of HT_.out (by kernel_rfl)) (by decide) (fun K hK => ?_)
     refine Kd.R_append_rows_step k29 (w0 := w) w.heap.size (by rfl) (.tmp 61) (.tmp 64) 22 29 (.agg #[(.int .i64 0), (.int .i64 0), (.int .i64 0), (.bool false)]) 32 rfl Try.underlying22 info29 rfl (by decide) (by omega) v112 e2 E0 _ _ _ (fun k_ => some k_ ≠ (.slice (some u) o.length D : Value).ownBlock ∧ some k_ ≠ (v123 : Value).ownBlock) (fun _ => False) rfl rfl ?aO ?aR (fun _ _ h => h) (fun _ h => h.elim) ?aF ?aB ?aS ?aL ?_
     (case aR => repeat (first | exact (by repeat (first | (with_reducible exact O.out) | (with_reducible refine Kd.C_alloc ?_ _) | (with_reducible refine Kd.C_drewN ?_ _) | (with_reducible refine Kd.C_drew ?_) | exact O.out)) | (with_reducible refine Kd.C_alloc ?_ _) | (with_reducible refine Kd.C_drewN ?_ _) | (with_reducible refine Kd.C_drew ?_)))
     (case aB => exact zB)
     (case aF => exact (fun k_ hk => ⟨Kd.fresh' (Kd.R_lt (zkR l)) k_ hk, Kd.fresh' (Kd.R_lt (zkR X)) k_ hk⟩))
     (case aO => exact (Kd.R_mono (zlR T1.out) (fun _ hk => ⟨hk.1.2, hk.2⟩)))
     (case aS => exact (zz zB))
     (case aL => have := LMc19.out; omega)
     intro v119 o7 ho hb hg hat
     rw [← Ny118.out] at ho
     have A := zK (Kd.R_after (ok := (fun k_ => some k_ ≠ (v123 : Value).ownBlock)) (Kd.R_mono (zlR l.out) (fun _ hk => ⟨hk.1.2, hk.2⟩)) hg hat)
     have B := zK (Kd.R_after (ok := (fun k_ => some k_ ≠ (.slice (some u) o.length D : Value).ownBlock)) (Kd.R_mono (zlR X.out) (fun _ hk => ⟨hk.1.2, hk.2⟩)) hg hat)
     have E := zK (hb)
     have I := zK ((show Kd.C k29 o7 (some u) E0.length E0 from by rw [Ny114.out]; exact Kd.C_take (m := (y : Int).toNat) ((Kd.R_reads' (Kd.R_after (ok := (fun k_ => some k_ ≠ (v123 : Value).ownBlock)) (Kd.R_mono (zlR l.out) (fun _ hk => ⟨hk.1.2, hk.2⟩)) hg hat)).2.2) KL26.out))
     have n0 := zK (ho)
     revert A B E I n0
     clear l X HB O T1
     intro l X HB O y1
     clear ho hb hg hat
     refine hK.out _ _ ⟨(zX HB d1:), (zX HB b1:), (zX HB a1:), (zX HB X0:)⟩ (fun hHeld => ?_)
     clear hK K
     refine zU 65 ?_
     exact norm_ (by simp only [putAll, Act.put, zq1, zq2, zq3]) (hCont (v112, v119, v123) _ ⟨hHeld, (Kd.R_mono (zlR y1.out) (fun _ hk => ⟨hk.2, hk.1⟩)), (Kd.R_mono (zlR X.out) (fun _ hk => ⟨hk.2, hk.1⟩)), (Kd.R_mono (zlR l.out) (fun _ hk => ⟨hk.2, hk.1⟩)), zB⟩)
 rintro ⟨v112, v119, v123⟩ b5 ⟨hS_, T4, U4, V4, X4⟩
 have A : Aside0 (Kd.R k29 29 b5 w.heap.size (fun k_ => some k_ ≠ (v123 : Value).ownBlock ∧ some k_ ≠ (.slice (some u) o.length D : Value).ownBlock) v119 j1) := ⟨T4⟩
 have B : Aside0 (Kd.R k29 29 b5 w.heap.size (fun k_ => some k_ ≠ (v119 : Value).ownBlock ∧ some k_ ≠ (.slice (some u) o.length D : Value).ownBlock) v123 x0) := ⟨U4⟩
 have E : Aside0 (Kd.R k29 29 b5 w.heap.size (fun k_ => some k_ ≠ (v119 : Value).ownBlock ∧ some k_ ≠ (v123 : Value).ownBlock) (.slice (some u) o.length D) o) := ⟨V4⟩
 have I : Aside0 (Below w.heap.size w b5) := ⟨X4⟩
 clear l
 clear HB
 clear T4 U4 V4 X4
 revert A B E I
 intro y1 X l HB
 have hHeld : b5.cell? (x.add ((a).toNat * 4)) = some (.int .i64 ((rd_T29 q a).f0)) ∧ b5.cell? ⟨(x.add ((a).toNat * 4)).block, (x.add ((a).toNat * 4)).off + 1, none⟩ = some (.int .i64 ((rd_T29 q a).f1)) ∧ b5.cell? ⟨(x.add ((a).toNat * 4)).block, (x.add ((a).toNat * 4)).off + 2, none⟩ = some (.int .i64 ((rd_T29 q a).f2)) ∧ b5.cell? ⟨(x.add ((a).toNat * 4)).block, (x.add ((a).toNat * 4)).off + 3, none⟩ = some (.bool ((rd_T29 q a).f3)) := hS_
 obtain ⟨O4, R4, p7⟩ := Kd.R_slice X.out
 (first | subst p7 | (injection p7 with f1_ f2_ f3_; have f4_ := f1_.symm; have f5_ := f3_.symm; clear f1_ f2_ f3_; subst f4_; subst f5_))
 refine norm_ (a' := ?_) ?_ ?_
 rotate_left
 · simp only [putAll, Act.put, zq1, zq2, zq3]
   rfl
 refine one_ (i := 10) (N := some 71) (bl 16 16383) rfl rfl (one_of HT_.out (by kernel_rfl)) (by decide) (fun K hK => ?_)
 refine Kd.R_append_rows_step k29 (w0 := w) w.heap.size (by rfl) (.tmp 65) (.tmp 70) 22 29 (.agg #[(.int .i64 0), (.int .i64 0), (.int .i64 0), (.bool false)]) 32 rfl Try.underlying22 info29 rfl (by decide) (by omega) v119 j1 x0 _ _ _ (fun k_ => some k_ ≠ (.slice (some u) o.length D : Value).ownBlock ∧ some k_ ≠ (.slice O4 x0.length R4 : Value).ownBlock) (fun _ => False) rfl rfl ?aO ?aR (fun _ _ h => h) (fun _ h => h.elim) ?aF ?aB ?aS ?aL ?_
 (case aR => exact zC (Kd.R_reads' X.out).2.2)
 (case aB => exact zB)
 (case aF => exact (fun k_ hk => ⟨Kd.fresh' (Kd.R_lt (zkR l)) k_ hk, Kd.fresh' (Kd.R_lt (zkR X)) k_ hk⟩))
 (case aO => exact (Kd.R_mono (zlR y1.out) (fun _ hk => ⟨hk.2, hk.1⟩)))
 (case aS => exact (zz zB))
 (case aL => have := LMc20.out; omega)
 intro v126 R9 ho hb hg hat
 rw [← Ny125.out] at ho
 have A := zK (Kd.R_after (ok := (fun k_ => some k_ ≠ (.slice O4 x0.length R4 : Value).ownBlock)) (Kd.R_mono (zlR l.out) (fun _ hk => ⟨hk.2, hk.1⟩)) hg hat)
 have B := zK (Kd.R_after (ok := (fun k_ => some k_ ≠ (.slice (some u) o.length D : Value).ownBlock)) (Kd.R_mono (zlR X.out) (fun _ hk => ⟨hk.2, hk.1⟩)) hg hat)
 have E := zK (hb)
 have I := zK (ho)
 revert A B E I
 clear l X HB y1
 intro l X HB M6
 clear ho hb hg hat
 have q7 : (y : Int) ≤ ((o.length : Int) : Int) := z3
 obtain ⟨B9, N6, _, hsz35, _⟩ := info_parts info29
 have hroom35 : o.length ≤ D := (Kd.R_reads' l.out).2.1
 have hC35 : Kd.C k29 _ (some u) o.length o := (Kd.R_reads' l.out).2.2
 have b8 : (0 : Int) ≤ (y : Int) := z3
 have hcut35 := cut_from (P := Try.prog) 22 29 .i64 Try.underlying22 N6 4 hsz35 (some u) o.length D y b8 q7
 have m5 := Kd.C_drop (m := (y : Int).toNat) (c := D) hC35 (by omega) hroom35
 obtain ⟨R7, hA35⟩ : ∃ A1, A1 = (if D = (y : Int).toNat then (some u) else ((some u) : Option Addr).map (·.add ((y : Int).toNat * 4))) := ⟨_, rfl⟩
 obtain ⟨y8, i6⟩ : ∃ c1, c1 = D - (y : Int).toNat := ⟨_, rfl⟩
 have y5 : g0.length = o.length - (y : Int).toNat := (by rw [Ny128.out, List.length_drop] <;> omega)
 rw [show (o).drop (y : Int).toNat = g0 from Ny128.out.symm] at m5
 replace m5 : Kd.C k29 _ R7 g0.length g0 := (by rw [hA35]; exact m5)
 rw [← y5, ← hA35, ← i6] at hcut35
 have e5 := zK m5
 have m9 := zK (show g0.length ≤ y8 from by rw [y5, i6]; exact Nat.sub_le_sub_right hroom35 _)
 clear m5 hC35 hroom35 N6 hsz35 i6
 have KY35 := zK y5
 have KA35 := zK hA35
 clear y5 hA35
 have KL35 := zK (show (y : Int).toNat ≤ o.length from by omega)
 replace q7 := eq_true q7
 refine hK.out _ _ ⟨(zX HB d1:), (zX HB b1:), (zX HB a1:), (zX HB X0:)⟩ (fun hHeld => ?_)
 clear hK K
 refine zU 71 ?_
 refine one_ (i := 14) (N := some 75) (bl 16 32767) rfl rfl (one_of HT_.out (by kernel_rfl)) (by decide) (fun K hK => ?_)
 refine Kd.R_append_rows_step k29 (w0 := w) w.heap.size (by rfl) (.tmp 71) (.tmp 74) 22 29 (.agg #[(.int .i64 0), (.int .i64 0), (.int .i64 0), (.bool false)]) 32 rfl Try.underlying22 info29 rfl (by decide) (by omega) v126 C0 g0 _ _ _ (fun k_ => some k_ ≠ (.slice (some u) o.length D : Value).ownBlock ∧ some k_ ≠ (.slice O4 x0.length R4 : Value).ownBlock) (fun _ => False) rfl rfl ?aO ?aR (fun _ _ h => h) (fun _ h => h.elim) ?aF ?aB ?aS ?aL ?_
 (case aR => have e_ := e5.out; rw [KA35.out, KY35.out] at e_; exact e_)
 (case aB => exact zB)
 (case aF => exact (fun k_ hk => ⟨Kd.fresh' (Kd.R_lt (zkR l)) k_ hk, Kd.fresh' (Kd.R_lt (zkR X)) k_ hk⟩))
 (case aO => exact (zkR M6))
 (case aS => exact (zz zB))
 (case aL => have := LMc23.out; have := KY35.out; omega)
 intro v133 A8 ho hb hg hat
 rw [← Ny132.out] at ho
 have A := zK (Kd.R_after (ok := (fun k_ => some k_ ≠ (.slice O4 x0.length R4 : Value).ownBlock)) (zkR l) hg hat)
 have B := zK (Kd.R_after (ok := (fun k_ => some k_ ≠ (.slice (some u) o.length D : Value).ownBlock)) (zkR X) hg hat)
 have E := zK (hb)
 have I := zK ((show Kd.C k29 A8 R7 g0.length g0 from by rw [Ny128.out, KA35.out]; exact Kd.C_drop (m := (y : Int).toNat) (c := D) ((Kd.R_reads' (Kd.R_after (ok := (fun k_ => some k_ ≠ (.slice O4 x0.length R4 : Value).ownBlock)) (zkR l) hg hat)).2.2) KL35.out ((Kd.R_reads' (Kd.R_after (ok := (fun k_ => some k_ ≠ (.slice O4 x0.length R4 : Value).ownBlock)) (zkR l) hg hat)).2.1)))
 have n0 := zK (ho)
 revert A B E I n0
 clear l X HB e5 M6
 intro l X HB e5 J7
 clear ho hb hg hat
 refine hK.out _ _ ⟨(zX HB d1:), (zX HB b1:), (zX HB a1:), (zX HB X0:)⟩ (fun hHeld => ?_)
 clear hK K
 refine zU 75 ?_
 refine zP 15 3 (bl 16 65535) HT_ ?_
 refine done_ (done_of HT_.out (by kernel_rfl)) ?_
 try go_wp2
 all_goals (go_roundg k2; (case measure => have := D3.out; have := E3.out; omega); (case rel => exact ⟨(l7), (wrap64 (a + 1)), zR, H', ⟨by have := D3.out; have := E3.out; omega⟩, ⟨Kd.R_mono (zlR J7.out) (fun _ hk => trivial)⟩, ⟨zB⟩⟩))
end Go.Proofs.Ytiabkadcgmamaaa.PFnExactFillSlots
