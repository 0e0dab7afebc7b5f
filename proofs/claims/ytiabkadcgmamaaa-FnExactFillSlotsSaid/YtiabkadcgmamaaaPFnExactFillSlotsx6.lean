-- Printed out of the translation by this session's own turned copy of a printer; Lean checks it.
import Derived.Test.YtiabkadcgmamaaaPFnExactFillSlotsx0
namespace Go.Proofs.Ytiabkadcgmamaaa.PFnExactFillSlots
open Go.RowKit Go.Proofs.YtiabkadcgmamaaaW.PrintWords Go.Proofs.YtiabkadcgmamaaaW.PrintLast Go.Proofs.YtiabkadcgmamaaaW.PrintMore
attribute [local go_sem] max2_int min2_int max_two min_two max_three min_three max_four min_four
set_option linter.unusedVariables false
set_option linter.unusedSimpArgs false
set_option maxHeartbeats 8000000
set_option maxRecDepth 100000
def laws_eqSlot.f (a : Int) (l : Int) (o : Int) (q : Bool) (u : Int) (x : Int) (y : Int) (z : Bool) : Option (Bool) := if a = u then (if l = x then (if o = y then (if (q != z) = true then (some false) else (some true)) else (some false)) else (some false)) else (some false)
theorem laws_eqSlot.calls (u) (x) (y) (a : Bool) (z) (A) (B) (l : Bool) (r : Bool) (w) (h : laws_eqSlot.f u x y a z A B l = some r) :
 Calls Try.prog 14 #[.agg #[.int .i64 u, .int .i64 x, .int .i64 y, .bool a], .agg #[.int .i64 z, .int .i64 A, .int .i64 B, .bool l]] w fun e w' => e = .returned (.bool r) ∧ Below w.heap.size w w' := by
 have T0 := Try.underlying29
 have HB := zK (Below.refl w.heap.size w)
 have H : (if u = z then (if x = A then (if y = B then (if (a != l) = true then (some false) else (some true)) else (some false)) else (some false)) else (some false)) = some r := h
 clear h
 rcases zN (u = z) with D | D
 rw [if_neg D] at H
 have a0 := beq_eq_false_iff_ne.mpr D
 have b0 := bne_iff_ne.mpr D
 obtain rfl := z5 H
 rotate_left
 rw [if_pos D] at H
 have a0 := beq_iff_eq.mpr D
 have b0 := bne_eq_false_iff_eq.mpr D
 clear D
 rcases zN (x = A) with E | E
 rw [if_neg E] at H
 have c0 := beq_eq_false_iff_ne.mpr E
 have d0 := bne_iff_ne.mpr E
 obtain rfl := z5 H
 rotate_left
 rw [if_pos E] at H
 have c0 := beq_iff_eq.mpr E
 have d0 := bne_eq_false_iff_eq.mpr E
 clear E
 rcases zN (y = B) with I | I
 rw [if_neg I] at H
 have e0 := beq_eq_false_iff_ne.mpr I
 have f0 := bne_iff_ne.mpr I
 obtain rfl := z5 H
 rotate_left
 rw [if_pos I] at H
 have e0 := beq_iff_eq.mpr I
 have f0 := bne_eq_false_iff_eq.mpr I
 clear I
 rcases zN ((a != l) = true) with q | q
 rw [if_neg q] at H
 have g0 : (a != l) = false := by simpa using q
 (try (have i0 : decide (a = l) = true := by simpa using q))
 (try (have j0 : (a == l) = true := by simpa using q))
 clear q
 obtain rfl := z5 H
 rotate_left
 rw [if_pos q] at H
 have g0 : (a != l) = true := q
 (try (have i0 : decide (a = l) = false := by simpa using q))
 (try (have j0 : (a == l) = false := by simpa using q))
 (try (have U0 : ¬ (a = l) := by simpa using q))
 clear q
 obtain rfl := z5 H
 all_goals go_enter Try.func14, Try.ntmps14
 all_goals go_wp2_with (first | ((with_reducible refine gd 2 rfl ?_); refine zJ 2 #[.int .i64 u, .int .i64 x, .int .i64 y, .bool a] 29 ?_; intro L0 hg w7 hbox hb; have M := z8 hb; have O := zK (hbox); have T := z9 hg; have U := z9 hg; revert M O T U; clear HB; intro HB o M0 N0; clear hb hbox hg) | ((with_reducible refine gd 3 rfl ?_); refine zJ 3 #[.int .i64 z, .int .i64 A, .int .i64 B, .bool l] 29 ?_; intro O0 hg w8 hbox hb; have M := z7 o hb; have O := z8 hb; have T := zK (hbox); have U := z9 hg; have G0 := z9 hg; have I0 := zHH hg o; have J0 := zGG hg o; revert M O T U G0 I0 J0; clear o HB; intro o HB X R0 S0 J L; clear hb hbox hg; have V0 := J.out; have X0 := L.out; obtain ⟨l0, m0, n0, o0, p0, q0, s0, t0⟩ := zc4 o; obtain ⟨x0, y0, A0, B0, C0, D0, E0, F0⟩ := zc4 X))
 all_goals go_ret
 all_goals exact ⟨zE, zB⟩
def laws_eqSlotS.l0 : Nat → List (S29) → List (S29) → Int → Option (Bool)
 | 0, _, _, _ => none
 | k + 1, l, o, a => if a < (l.length : Int) then (if 0 ≤ a then (if a < (o.length : Int) then ((laws_eqSlot.f ((rd_T29 l a).f0) ((rd_T29 l a).f1) ((rd_T29 l a).f2) ((rd_T29 l a).f3) ((rd_T29 o a).f0) ((rd_T29 o a).f1) ((rd_T29 o a).f2) ((rd_T29 o a).f3)).bind fun q => (if q = true then (laws_eqSlotS.l0 k l o (wrap64 (a + 1))) else (some false))) else (none)) else (none)) else (some true)
def laws_eqSlotS.f (k : Nat) (a : List (S29)) (l : List (S29)) : Option (Bool) := if (a.length : Int) = (l.length : Int) then (laws_eqSlotS.l0 k a l 0) else (some false)
def laws_eqSlotS.T6 : Bool × List (List Nat × List Nat) := (true, [([], []), ([], []), ([0, 1], [0, 1]), ([2], [2]), ([], []), ([], []), ([4, 5], [4, 5]), ([6], [6]), ([3, 7], [3, 7]), ([8], [8])])
def laws_eqSlotS.B6 : List Nat := [0, 0, 3, 7, 0, 0, 48, 112, 255, 511]
theorem laws_eqSlotS.tab6 : rtab .any (opsOf Try.f6 6) = laws_eqSlotS.T6 := by kernel_rfl
theorem laws_eqSlotS.bits6 : waitsOk laws_eqSlotS.T6.2 laws_eqSlotS.B6 = true := by kernel_rfl
theorem laws_eqSlotS.calls (k) (A0) (c0) (q : List (S29)) (A1) (c1) (u : List (S29)) (r : Bool) (w) (C0 : Kd.C k29 w A0 q.length q) (D0 : q.length ≤ c0) (E0 : Kd.C k29 w A1 u.length u) (F0 : u.length ≤ c1) (h : laws_eqSlotS.f k q u = some r) :
 Calls Try.prog 6 #[.slice A0 q.length c0, .slice A1 u.length c1] w fun e w' => e = .returned (.bool r) ∧ Below w.heap.size w w' := by
 have j1 := Try.underlying29
 have G0 := zK C0
 have o1 := zK D0
 clear C0 D0
 have I0 := zK E0
 have p1 := zK F0
 clear E0 F0
 have HB := zK (Below.refl w.heap.size w)
 have H : (if (q.length : Int) = (u.length : Int) then (laws_eqSlotS.l0 k q u 0) else (some false)) = some r := h
 clear h
 by_cases c3 : (q.length : Int) = (u.length : Int)
 rotate_left
 · rw [if_neg c3] at H
   have p0 := beq_eq_false_iff_ne.mpr c3
   have q0 := bne_iff_ne.mpr c3
   have t0 : (q.length == u.length) = false := by first | simpa using c3 | (simp at c3 ⊢; omega)
   obtain rfl := z5 H
   go_enter Try.func6, Try.ntmps6
   go_wp2
   go_ret
   exact ⟨zE, zB⟩
 rw [if_pos c3] at H
 have p0 := beq_iff_eq.mpr c3
 have q0 := bne_eq_false_iff_eq.mpr c3
 have t0 : (q.length == u.length) = true := by first | simpa using c3 | (simp at c3 ⊢; omega)
 clear c3
 have H' := zK H
 clear H
 go_enter Try.func6, Try.ntmps6
 go_wp2
 go_loopg [5] k (fun kq v5 w' => ∃ (a : Int), v5 = .int .i64 a ∧ Aside0 (laws_eqSlotS.l0 kq q u a = some r) ∧ Aside0 (kq ≤ k) ∧ Aside0 (Below w.heap.size w w'))
 case atStart => exact ⟨(0), zR, H', ⟨Nat.le_refl _⟩, ⟨zB⟩⟩
 clear H'
 try clear c1
 try clear p2
 try clear c3
 try clear p0
 try clear q0
 try clear t0
 obtain ⟨a, rfl, HA, J0, HB⟩ := hrel
 rcases gk with _ | k1
 · exact absurd HA.out (by simp [laws_eqSlotS.l0])
 have H := HA.out
 clear HA
 simp only [laws_eqSlotS.l0] at H
 by_cases c4 : a < (q.length : Int)
 rotate_left
 · rw [if_neg c4] at H
   have N0 := z2 c4
   clear c4
   obtain rfl := z5 H
   go_wp2
   go_ret
   exact ⟨zE, zB⟩
 rw [if_pos c4] at H
 have N0 := z1 c4
 clear c4
 by_cases c5 : 0 ≤ a
 rotate_left
 · rw [if_neg c5] at H
   exact absurd H (by simp)
 rw [if_pos c5] at H
 have m1 := z1 c5
 clear c5
 by_cases c6 : a < (u.length : Int)
 rotate_left
 · rw [if_neg c6] at H
   exact absurd H (by simp)
 rw [if_pos c6] at H
 have n1 := z1 c6
 clear c6
 replace H := z6 H
 obtain ⟨O0, L0, H⟩ := H
 have A7 := zK L0
 clear L0
 by_cases c8 : O0 = true
 rotate_left
 · replace c8 := Bool.eq_false_iff.mpr c8
   subst c8
   rw [if_neg (show ¬ (false = true) by decide)] at H
   obtain rfl := z5 H
   try go_wp2
   have j0 := zK (ze HB.out)
   revert j0
   clear HB
   intro HB
   have b0 : 0 ≤ (a : Int) := z3
   have d0 : a < (q.length : Int) := z3
   obtain ⟨l, m0, x, y, z, A⟩ := at_T29 G0.out a b0 d0
   have J := A
   have L := z
   have M := y
   have O := x
   cases m0
   (try replace x := zX HB x)
   (try replace y := zX HB y)
   (try replace z := zX HB z)
   (try replace A := zX HB A)
   replace b0 := eq_true b0
   replace d0 := eq_true d0
   have e0 : 0 ≤ (a : Int) := z3
   have g0 : a < (u.length : Int) := z3
   obtain ⟨o, n0, B, D, E, I⟩ := at_T29 I0.out a e0 g0
   have T := I
   have U := E
   have X := D
   have a0 := B
   cases n0
   (try replace B := zX HB B)
   (try replace D := zX HB D)
   (try replace E := zX HB E)
   (try replace I := zX HB I)
   replace e0 := eq_true e0
   replace g0 := eq_true g0
   refine start_ (n := 10) (S := fun w' => w'.cell? (l.add ((a).toNat * 4)) = some (.int .i64 ((rd_T29 q a).f0)) ∧ w'.cell? ⟨(l.add ((a).toNat * 4)).block, (l.add ((a).toNat * 4)).off + 1, none⟩ = some (.int .i64 ((rd_T29 q a).f1)) ∧ w'.cell? ⟨(l.add ((a).toNat * 4)).block, (l.add ((a).toNat * 4)).off + 2, none⟩ = some (.int .i64 ((rd_T29 q a).f2)) ∧ w'.cell? ⟨(l.add ((a).toNat * 4)).block, (l.add ((a).toNat * 4)).off + 3, none⟩ = some (.bool ((rd_T29 q a).f3)) ∧ w'.cell? (o.add ((a).toNat * 4)) = some (.int .i64 ((rd_T29 u a).f0)) ∧ w'.cell? ⟨(o.add ((a).toNat * 4)).block, (o.add ((a).toNat * 4)).off + 1, none⟩ = some (.int .i64 ((rd_T29 u a).f1)) ∧ w'.cell? ⟨(o.add ((a).toNat * 4)).block, (o.add ((a).toNat * 4)).off + 2, none⟩ = some (.int .i64 ((rd_T29 u a).f2)) ∧ w'.cell? ⟨(o.add ((a).toNat * 4)).block, (o.add ((a).toNat * 4)).off + 3, none⟩ = some (.bool ((rd_T29 u a).f3))) (ds := []) (bl 10 0) (by kernel_rfl) rfl (by kernel_rfl) ⟨(zX HB O:), (zX HB M:), (zX HB L:), (zX HB J:), (zX HB a0:), (zX HB X:), (zX HB U:), (zX HB T:)⟩ (fun hHeld => ?_); refine with_tabW laws_eqSlotS.tab6 laws_eqSlotS.bits6 (fun HT_ HW_ => ?_)
   generalize wr.drew = q1 at HB x y z A B D E I hHeld ⊢
   refine zP 0 17 (bl 10 1) HT_ ?_
   refine zP 1 18 (bl 10 3) HT_ ?_
   refine zP 2 19 (bl 10 7) HT_ ?_
   refine zP 4 21 (bl 10 23) HT_ ?_
   refine zP 5 22 (bl 10 55) HT_ ?_
   refine zP 6 23 (bl 10 119) HT_ ?_
   refine zT 3 20 (bl 10 127) rfl rfl HT_ HW_ hHeld (by rintro w' ⟨s0, s1, s2, s3, s4, s5, s6, s7⟩; go_simp; with_reducible rfl) ?_
   refine zT 7 24 (bl 10 255) rfl rfl HT_ HW_ hHeld (by rintro w' ⟨s0, s1, s2, s3, s4, s5, s6, s7⟩; go_simp; with_reducible rfl) ?_
   refine one_ (i := 8) (N := some 25) (bl 10 511) rfl rfl (one_of HT_.out (by kernel_rfl)) (by decide) (fun K hK => ?_)
   refine goes_ Try.func14 (by kernel_rfl) rfl #[.agg #[.int .i64 ((rd_T29 q a).f0), .int .i64 ((rd_T29 q a).f1), .int .i64 ((rd_T29 q a).f2), .bool ((rd_T29 q a).f3)], .agg #[.int .i64 ((rd_T29 u a).f0), .int .i64 ((rd_T29 u a).f1), .int .i64 ((rd_T29 u a).f2), .bool ((rd_T29 u a).f3)]] (by rfl) rfl rfl zL ?_
   with_reducible refine (laws_eqSlot.calls ((rd_T29 q a).f0) ((rd_T29 q a).f1) ((rd_T29 q a).f2) ((rd_T29 q a).f3) ((rd_T29 u a).f0) ((rd_T29 u a).f1) ((rd_T29 u a).f2) ((rd_T29 u a).f3) false _ A7.out).mono ?_
   rintro e t1 ⟨rfl, hb⟩
   refine ⟨_, rfl, ?_⟩
   have j0 := z8 hb
   revert j0
   clear HB
   intro HB
   (try clear hb)
   (try clear hb2)
   (try clear hk)
   (try clear hi)
   refine hK.out _ _ ⟨(zX HB O:), (zX HB M:), (zX HB L:), (zX HB J:), (zX HB a0:), (zX HB X:), (zX HB U:), (zX HB T:)⟩ (fun hHeld => ?_)
   clear hK K
   refine zU 25 ?_
   refine zP 9 26 (bl 10 1023) HT_ ?_
   refine done_ (done_of HT_.out (by kernel_rfl)) ?_
   try go_wp2
   go_ret
   exact ⟨zE, zB⟩
 subst c8
 rw [if_pos rfl] at H
 have H' := zK H
 clear H
 try go_wp2
 have j0 := zK (ze HB.out)
 revert j0
 clear HB
 intro HB
 have b0 : 0 ≤ (a : Int) := z3
 have d0 : a < (q.length : Int) := z3
 obtain ⟨l, m0, x, y, z, A⟩ := at_T29 G0.out a b0 d0
 have J := A
 have L := z
 have M := y
 have O := x
 cases m0
 (try replace x := zX HB x)
 (try replace y := zX HB y)
 (try replace z := zX HB z)
 (try replace A := zX HB A)
 replace b0 := eq_true b0
 replace d0 := eq_true d0
 have e0 : 0 ≤ (a : Int) := z3
 have g0 : a < (u.length : Int) := z3
 obtain ⟨o, n0, B, D, E, I⟩ := at_T29 I0.out a e0 g0
 have T := I
 have U := E
 have X := D
 have a0 := B
 cases n0
 (try replace B := zX HB B)
 (try replace D := zX HB D)
 (try replace E := zX HB E)
 (try replace I := zX HB I)
 replace e0 := eq_true e0
 replace g0 := eq_true g0
 refine start_ (n := 10) (S := fun w' => w'.cell? (l.add ((a).toNat * 4)) = some (.int .i64 ((rd_T29 q a).f0)) ∧ w'.cell? ⟨(l.add ((a).toNat * 4)).block, (l.add ((a).toNat * 4)).off + 1, none⟩ = some (.int .i64 ((rd_T29 q a).f1)) ∧ w'.cell? ⟨(l.add ((a).toNat * 4)).block, (l.add ((a).toNat * 4)).off + 2, none⟩ = some (.int .i64 ((rd_T29 q a).f2)) ∧ w'.cell? ⟨(l.add ((a).toNat * 4)).block, (l.add ((a).toNat * 4)).off + 3, none⟩ = some (.bool ((rd_T29 q a).f3)) ∧ w'.cell? (o.add ((a).toNat * 4)) = some (.int .i64 ((rd_T29 u a).f0)) ∧ w'.cell? ⟨(o.add ((a).toNat * 4)).block, (o.add ((a).toNat * 4)).off + 1, none⟩ = some (.int .i64 ((rd_T29 u a).f1)) ∧ w'.cell? ⟨(o.add ((a).toNat * 4)).block, (o.add ((a).toNat * 4)).off + 2, none⟩ = some (.int .i64 ((rd_T29 u a).f2)) ∧ w'.cell? ⟨(o.add ((a).toNat * 4)).block, (o.add ((a).toNat * 4)).off + 3, none⟩ = some (.bool ((rd_T29 u a).f3))) (ds := []) (bl 10 0) (by kernel_rfl) rfl (by kernel_rfl) ⟨(zX HB O:), (zX HB M:), (zX HB L:), (zX HB J:), (zX HB a0:), (zX HB X:), (zX HB U:), (zX HB T:)⟩ (fun hHeld => ?_); refine with_tabW laws_eqSlotS.tab6 laws_eqSlotS.bits6 (fun HT_ HW_ => ?_)
 generalize wr.drew = w9 at HB x y z A B D E I hHeld ⊢
 refine zP 0 17 (bl 10 1) HT_ ?_
 refine zP 1 18 (bl 10 3) HT_ ?_
 refine zP 2 19 (bl 10 7) HT_ ?_
 refine zP 4 21 (bl 10 23) HT_ ?_
 refine zP 5 22 (bl 10 55) HT_ ?_
 refine zP 6 23 (bl 10 119) HT_ ?_
 refine zT 3 20 (bl 10 127) rfl rfl HT_ HW_ hHeld (by rintro w' ⟨s0, s1, s2, s3, s4, s5, s6, s7⟩; go_simp; with_reducible rfl) ?_
 refine zT 7 24 (bl 10 255) rfl rfl HT_ HW_ hHeld (by rintro w' ⟨s0, s1, s2, s3, s4, s5, s6, s7⟩; go_simp; with_reducible rfl) ?_
 refine one_ (i := 8) (N := some 25) (bl 10 511) rfl rfl (one_of HT_.out (by kernel_rfl)) (by decide) (fun K hK => ?_)
 refine goes_ Try.func14 (by kernel_rfl) rfl #[.agg #[.int .i64 ((rd_T29 q a).f0), .int .i64 ((rd_T29 q a).f1), .int .i64 ((rd_T29 q a).f2), .bool ((rd_T29 q a).f3)], .agg #[.int .i64 ((rd_T29 u a).f0), .int .i64 ((rd_T29 u a).f1), .int .i64 ((rd_T29 u a).f2), .bool ((rd_T29 u a).f3)]] (by rfl) rfl rfl zL ?_
 with_reducible refine (laws_eqSlot.calls ((rd_T29 q a).f0) ((rd_T29 q a).f1) ((rd_T29 q a).f2) ((rd_T29 q a).f3) ((rd_T29 u a).f0) ((rd_T29 u a).f1) ((rd_T29 u a).f2) ((rd_T29 u a).f3) true _ A7.out).mono ?_
 rintro e x1 ⟨rfl, hb⟩
 refine ⟨_, rfl, ?_⟩
 have j0 := z8 hb
 revert j0
 clear HB
 intro HB
 (try clear hb)
 (try clear hb2)
 (try clear hk)
 (try clear hi)
 refine hK.out _ _ ⟨(zX HB O:), (zX HB M:), (zX HB L:), (zX HB J:), (zX HB a0:), (zX HB X:), (zX HB U:), (zX HB T:)⟩ (fun hHeld => ?_)
 clear hK K
 refine zU 25 ?_
 refine zP 9 26 (bl 10 1023) HT_ ?_
 refine done_ (done_of HT_.out (by kernel_rfl)) ?_
 try go_wp2
 go_roundg k1
 case measure => have := J0.out; omega
 case rel => exact ⟨(wrap64 (a + 1)), zR, H', ⟨by have := J0.out; omega⟩, ⟨zB⟩⟩
def laws_markSlotS.l0 : Nat → List (S29) → Int → Int → Option (Int × (List (S29)))
 | 0, _, _, _ => none
 | k + 1, u, x, a => if a < (u.length : Int) then (if 0 ≤ a then ((some (u.set (a : Int).toNat (⟨x, (rd_T29 u a).f1, (rd_T29 u a).f2, (rd_T29 u a).f3⟩ : S29) : List (S29))).bind fun l => ((some (l.set (a : Int).toNat (⟨(rd_T29 l a).f0, wrap64 (x + 1), (rd_T29 l a).f2, (rd_T29 l a).f3⟩ : S29) : List (S29))).bind fun o => ((some (o.set (a : Int).toNat (⟨(rd_T29 o a).f0, (rd_T29 o a).f1, wrap64 ((wrap64 (x + 1)) + 1), (rd_T29 o a).f3⟩ : S29) : List (S29))).bind fun q => (laws_markSlotS.l0 k (q.set (a : Int).toNat (⟨(rd_T29 q a).f0, (rd_T29 q a).f1, (rd_T29 q a).f2, ((Int.tmod (wrap64 ((wrap64 ((wrap64 (x + 1)) + 1)) + 1)) 3) == 0)⟩ : S29)) (wrap64 ((wrap64 ((wrap64 ((wrap64 (x + 1)) + 1)) + 1)) + 1)) (wrap64 (a + 1)))))) else (none)) else (some (x, u))
def laws_markSlotS.f (k : Nat) (a : List (S29)) (l : Int) : Option (Int × (List (S29))) := laws_markSlotS.l0 k a l 0
theorem laws_markSlotS.calls (k) (z : Nat → Prop) (u9000_ : Value) (l0 : List (S29)) (a1) (r1) (r2 : List (S29)) (w0 w : World) (hB : Below w0.heap.size w0 w) (G0 : Kd.R k29 29 w w0.heap.size z u9000_ l0) (h : laws_markSlotS.f k l0 a1 = some (r1, r2)) :
 Calls Try.prog 7 #[u9000_, .int .i64 a1] w fun e w' => e = .returned (.int .i64 r1) ∧ Kd.R k29 29 w' w0.heap.size (fun k_ => (z k_ ∨ w.heap.size ≤ k_)) u9000_ r2 ∧ Below w0.heap.size w0 w' ∧ Kept w w' (fun k_ => z k_) := by
 have I0 := zK (show Kd.R k29 29 w w0.heap.size (fun k_ => (z k_ ∨ w.heap.size ≤ k_)) u9000_ l0 from Kd.R_mono G0 (fun k_ hk => (.inl hk)))
 have HK := zK (Kept.refl w (fun k_ => z k_))
 have HW0 := zK hB.size
 have HB := zK hB
 clear hB
 have H : (laws_markSlotS.l0 k l0 a1 0) = some (r1, r2) := h
 clear h
 have H' := zK H
 clear H
 go_enter Try.func7, Try.ntmps7
 go_wp2
 go_loopg [1, 5] k (fun kq v1 v5 w' => ∃ (l : List (S29)) (o : Int) (a : Int), v1 = .int .i64 o ∧ v5 = .int .i64 a ∧ Aside0 (laws_markSlotS.l0 kq l o a = some (r1, r2)) ∧ Aside0 (kq ≤ k) ∧ Aside0 (Kd.R k29 29 w' w0.heap.size (fun k_ => (z k_ ∨ w.heap.size ≤ k_)) u9000_ l) ∧ Aside0 (Kept w w' (fun k_ => z k_)) ∧ Aside0 (Below w0.heap.size w0 w'))
 case atStart => exact ⟨(l0), (a1), (0), zR, zR, H', ⟨Nat.le_refl _⟩, ⟨zkR I0⟩, ⟨by repeat (first | (with_reducible first | exact HK.out | apply Kept.alloc | apply Kept.drewN | apply Kept.drew) | exact HK.out)⟩, ⟨zB⟩⟩
 clear H'
 try clear p2
 obtain ⟨l, o, a, rfl, rfl, HA, o0, q, HK, HB⟩ := hrel
 rcases gk with _ | k1
 · exact absurd HA.out (by simp [laws_markSlotS.l0])
 have H := HA.out
 clear HA
 simp only [laws_markSlotS.l0] at H
 by_cases c3 : a < (l.length : Int)
 rotate_left
 · rw [if_neg c3] at H
   have s0 := z2 c3
   clear c3
   simp only [Option.some.injEq, Prod.mk.injEq] at H
   obtain ⟨rfl, rfl⟩ := H
   obtain ⟨j1, l1, t0⟩ := Kd.R_slice q.out
   subst t0
   go_wp2
   go_ret
   exact ⟨zE, zkR q, zB, by repeat (first | (with_reducible first | exact HK.out | apply Kept.alloc | apply Kept.drewN | apply Kept.drew) | exact HK.out)⟩
 rw [if_pos c3] at H
 have s0 := z1 c3
 clear c3
 by_cases c4 : 0 ≤ a
 rotate_left
 · rw [if_neg c4] at H
   exact absurd H (by simp)
 rw [if_pos c4] at H
 have m1 := z1 c4
 clear c4
 obtain ⟨y, I⟩ : ∃ y_ : List (S29), y_ = (l.set (a : Int).toNat (⟨o, (rd_T29 l a).f1, (rd_T29 l a).f2, (rd_T29 l a).f3⟩ : S29)) := ⟨_, rfl⟩
 replace H : ((some (y.set (a : Int).toNat (⟨(rd_T29 y a).f0, wrap64 (o + 1), (rd_T29 y a).f2, (rd_T29 y a).f3⟩ : S29) : List (S29))).bind fun x => ((some (x.set (a : Int).toNat (⟨(rd_T29 x a).f0, (rd_T29 x a).f1, wrap64 ((wrap64 (o + 1)) + 1), (rd_T29 x a).f3⟩ : S29) : List (S29))).bind fun u => (laws_markSlotS.l0 k1 (u.set (a : Int).toNat (⟨(rd_T29 u a).f0, (rd_T29 u a).f1, (rd_T29 u a).f2, ((Int.tmod (wrap64 ((wrap64 ((wrap64 (o + 1)) + 1)) + 1)) 3) == 0)⟩ : S29)) (wrap64 ((wrap64 ((wrap64 ((wrap64 (o + 1)) + 1)) + 1)) + 1)) (wrap64 (a + 1))))) = some (r1, r2) := by first | (rw [I]; with_reducible exact H) | (have A := (Option.bind_some _ _).symm.trans H; rw [I]; with_reducible exact A) | (have A := (Option.bind_some _ _).symm.trans H; with_reducible exact A) | with_reducible exact H | (rw [I]; exact H) | exact H
 have Ny227 := zK I
 clear I
 obtain ⟨x, J⟩ : ∃ y_ : List (S29), y_ = (y.set (a : Int).toNat (⟨(rd_T29 y a).f0, wrap64 (o + 1), (rd_T29 y a).f2, (rd_T29 y a).f3⟩ : S29)) := ⟨_, rfl⟩
 replace H : ((some (x.set (a : Int).toNat (⟨(rd_T29 x a).f0, (rd_T29 x a).f1, wrap64 ((wrap64 (o + 1)) + 1), (rd_T29 x a).f3⟩ : S29) : List (S29))).bind fun u => (laws_markSlotS.l0 k1 (u.set (a : Int).toNat (⟨(rd_T29 u a).f0, (rd_T29 u a).f1, (rd_T29 u a).f2, ((Int.tmod (wrap64 ((wrap64 ((wrap64 (o + 1)) + 1)) + 1)) 3) == 0)⟩ : S29)) (wrap64 ((wrap64 ((wrap64 ((wrap64 (o + 1)) + 1)) + 1)) + 1)) (wrap64 (a + 1)))) = some (r1, r2) := by first | (rw [J]; with_reducible exact H) | (have A := (Option.bind_some _ _).symm.trans H; rw [J]; with_reducible exact A) | (have A := (Option.bind_some _ _).symm.trans H; with_reducible exact A) | with_reducible exact H | (rw [J]; exact H) | exact H
 have Ny228 := zK J
 clear J
 obtain ⟨u, L⟩ : ∃ y_ : List (S29), y_ = (x.set (a : Int).toNat (⟨(rd_T29 x a).f0, (rd_T29 x a).f1, wrap64 ((wrap64 (o + 1)) + 1), (rd_T29 x a).f3⟩ : S29)) := ⟨_, rfl⟩
 replace H : (laws_markSlotS.l0 k1 (u.set (a : Int).toNat (⟨(rd_T29 u a).f0, (rd_T29 u a).f1, (rd_T29 u a).f2, ((Int.tmod (wrap64 ((wrap64 ((wrap64 (o + 1)) + 1)) + 1)) 3) == 0)⟩ : S29)) (wrap64 ((wrap64 ((wrap64 ((wrap64 (o + 1)) + 1)) + 1)) + 1)) (wrap64 (a + 1))) = some (r1, r2) := by first | (rw [L]; with_reducible exact H) | (have A := (Option.bind_some _ _).symm.trans H; rw [L]; with_reducible exact A) | (have A := (Option.bind_some _ _).symm.trans H; with_reducible exact A) | with_reducible exact H | (rw [L]; exact H) | exact H
 have Ny229 := zK L
 clear L
 obtain ⟨a0, M⟩ : ∃ y_ : List (S29), y_ = (u.set (a : Int).toNat (⟨(rd_T29 u a).f0, (rd_T29 u a).f1, (rd_T29 u a).f2, ((Int.tmod (wrap64 ((wrap64 ((wrap64 (o + 1)) + 1)) + 1)) 3) == 0)⟩ : S29)) := ⟨_, rfl⟩
 replace H : (laws_markSlotS.l0 k1 a0 (wrap64 ((wrap64 ((wrap64 ((wrap64 (o + 1)) + 1)) + 1)) + 1)) (wrap64 (a + 1))) = some (r1, r2) := by first | (rw [M]; with_reducible exact H) | (have A := (Option.bind_some _ _).symm.trans H; rw [M]; with_reducible exact A) | (have A := (Option.bind_some _ _).symm.trans H; with_reducible exact A) | with_reducible exact H | (rw [M]; exact H) | exact H
 have Ny230 := zK M
 clear M
 have H' := zK H
 clear H
 obtain ⟨n1, O, J0⟩ := Kd.R_slice q.out
 subst J0
 have p5 : 0 ≤ (a : Int) := z3
 have q5 : (a : Int) < ((l.length : Int) : Int) := z3
 obtain ⟨go5, o1, p0, q0, gl5, cl5, HG5⟩ := Kd.R_form q.out (by omega)
 (first | cases p0 | (injection p0 with ea_ en_ ec_; (first | subst ea_ | (injection ea_ with ea_; subst ea_)); subst ec_; clear en_))
 have GB5 := zK q0
 have GG5 := zK HG5
 clear q0 gl5 HG5
 have HMgo5 := zK (show (z go5 ∨ w.heap.size ≤ go5) from (q.out.1 _ rfl))
 obtain ⟨ce5, hcl5, hM5, hcc5, hfr5⟩ := Kd.R_elem q.out z29 (a : Int) p5 q5
 obtain rfl := k29_openM hM5
 have L0 : wr.cell? ⟨go5, (a : Int).toNat * 4, none⟩ = some (.int .i64 ((rd_T29 l a).f0)) := hcc5 0 _ rfl
 have M0 : wr.cell? ⟨go5, (a : Int).toNat * 4 + 1, none⟩ = some (.int .i64 ((rd_T29 l a).f1)) := hcc5 1 _ rfl
 have N0 : wr.cell? ⟨go5, (a : Int).toNat * 4 + 2, none⟩ = some (.int .i64 ((rd_T29 l a).f2)) := hcc5 2 _ rfl
 have O0 : wr.cell? ⟨go5, (a : Int).toNat * 4 + 3, none⟩ = some (.bool ((rd_T29 l a).f3)) := hcc5 3 _ rfl
 have hf5_0 : wr.frozen? ⟨go5, (a : Int).toNat * 4, none⟩ = false := hfr5 0
 have hf5_1 : wr.frozen? ⟨go5, (a : Int).toNat * 4 + 1, none⟩ = false := hfr5 1
 have hf5_2 : wr.frozen? ⟨go5, (a : Int).toNat * 4 + 2, none⟩ = false := hfr5 2
 have hf5_3 : wr.frozen? ⟨go5, (a : Int).toNat * 4 + 3, none⟩ = false := hfr5 3
 clear hcl5 hcc5 hfr5 hM5
 replace p5 := eq_true p5
 replace q5 := eq_true q5
 have HX10 := zK (show Kd.R k29 29 wr w0.heap.size (fun k_ => (z k_ ∨ w.heap.size ≤ k_)) (.slice (some ⟨go5, 0, none⟩) l.length O) l from (zkR q))
 obtain ⟨ce10, hcl10, hM10, hcc10, hfr10⟩ := Kd.R_elem HX10.out z29 (a : Int) (z3) (by have h_ : (a : Int) < ((l.length : Int) : Int) := z3; first | exact h_ | (have e_ := (Kd.R_reads' q.out).1; omega) | simpa using h_)
 obtain rfl := k29_openM hM10
 have HP10 := Kd.R_seg HX10.out (a : Int) (z3) (by have h_ : (a : Int) < ((l.length : Int) : Int) := z3; first | exact h_ | (have e_ := (Kd.R_reads' q.out).1; omega) | simpa using h_) (seg := [.int .i64 o]) (j := 0) hcl10 hcc10 (show 1 ≤ 4 from by decide) (x' := (⟨o, (rd_T29 l a).f1, (rd_T29 l a).f2, (rd_T29 l a).f3⟩ : S29)) (k29_mkM _ _ _ (⟨o, (rd_T29 l a).f1, (rd_T29 l a).f2, (rd_T29 l a).f3⟩ : S29) ) (fun _ hk => hk)
 have d0 := hcc10 0 _ rfl
 (try simp only [show (k29).sz = 4 from rfl, Nat.mul_one, Nat.add_zero] at d0)
 have hf10_0 := hfr10 0
 (try simp only [show (k29).sz = 4 from rfl, Nat.mul_one, Nat.add_zero] at hf10_0)
 clear hcl10 hcc10 hfr10 hM10
 go_wp2_with (first | ((with_reducible refine gate_store (t := 3) (p := 16) rfl ?_); refine store_event (t := 3) (p := 16) (v := ?vo_w11) (w1 := (wr.setCell ⟨go5, (a : Int).toNat * 4, none⟩ (.int .i64 o))) ?hg ?ho ?hn ?hr ?_; (case ho => rfl); (case hg => rfl); (case hn => rfl); (case hr => first | (go_simp; done) | (go_simp; rfl)); intro B hw; have hg : wr.grownBy B (some go5) := (by rw [hw]; exact HP10.2); have hp_ : Kd.R k29 29 B w0.heap.size (fun k_ => (z k_ ∨ w.heap.size ≤ k_)) (.slice (some ⟨go5, 0, none⟩) l.length O) y := (by rw [hw, Ny227.out]; exact HP10.1); clear HP10; have T := zK (hp_); have U := zK ((by rw [hw]; exact zs (HB.out) GB5.out : Below w0.heap.size w0 B)); have X := zK (Kept.of_grown (S := (fun k_ => z k_)) hg (by repeat (first | (with_reducible first | exact HK.out | apply Kept.alloc | apply Kept.drewN | apply Kept.drew) | exact HK.out)) (fun k_ e_ => (q.out.1 k_ e_))); revert T U X; clear q HB HK; intro q HB HK; clear hg hw hp_; have p6 : 0 ≤ (a : Int) := z3; have q6 : (a : Int) < ((l.length : Int) : Int) := z3; obtain ⟨ce6, hcl6, hM6, hcc6, hfr6⟩ := Kd.R_elem q.out z29 (a : Int) p6 q6; obtain rfl := k29_openM hM6; have R0 : B.cell? ⟨go5, (a : Int).toNat * 4, none⟩ = some (.int .i64 ((rd_T29 y a).f0)) := hcc6 0 _ rfl; have S0 : B.cell? ⟨go5, (a : Int).toNat * 4 + 1, none⟩ = some (.int .i64 ((rd_T29 y a).f1)) := hcc6 1 _ rfl; have T0 : B.cell? ⟨go5, (a : Int).toNat * 4 + 2, none⟩ = some (.int .i64 ((rd_T29 y a).f2)) := hcc6 2 _ rfl; have U0 : B.cell? ⟨go5, (a : Int).toNat * 4 + 3, none⟩ = some (.bool ((rd_T29 y a).f3)) := hcc6 3 _ rfl; have hf6_0 : B.frozen? ⟨go5, (a : Int).toNat * 4, none⟩ = false := hfr6 0; have hf6_1 : B.frozen? ⟨go5, (a : Int).toNat * 4 + 1, none⟩ = false := hfr6 1; have hf6_2 : B.frozen? ⟨go5, (a : Int).toNat * 4 + 2, none⟩ = false := hfr6 2; have hf6_3 : B.frozen? ⟨go5, (a : Int).toNat * 4 + 3, none⟩ = false := hfr6 3; clear hcl6 hcc6 hfr6 hM6; replace p6 := eq_true p6; replace q6 := eq_true q6; have HX12 := zK (show Kd.R k29 29 B w0.heap.size (fun k_ => (z k_ ∨ w.heap.size ≤ k_)) (.slice (some ⟨go5, 0, none⟩) l.length O) y from (zkR q)); obtain ⟨ce12, hcl12, hM12, hcc12, hfr12⟩ := Kd.R_elem HX12.out z29 (a : Int) (z3) (by have h_ : (a : Int) < ((l.length : Int) : Int) := z3; first | exact h_ | (have e_ := (Kd.R_reads' q.out).1; omega) | simpa using h_); obtain rfl := k29_openM hM12; have HP12 := Kd.R_seg HX12.out (a : Int) (z3) (by have h_ : (a : Int) < ((l.length : Int) : Int) := z3; first | exact h_ | (have e_ := (Kd.R_reads' q.out).1; omega) | simpa using h_) (seg := [.int .i64 (wrap64 (o + 1))]) (j := 1) hcl12 hcc12 (show 2 ≤ 4 from by decide) (x' := (⟨(rd_T29 y a).f0, wrap64 (o + 1), (rd_T29 y a).f2, (rd_T29 y a).f3⟩ : S29)) (k29_mkM _ _ _ (⟨(rd_T29 y a).f0, wrap64 (o + 1), (rd_T29 y a).f2, (rd_T29 y a).f3⟩ : S29) ) (fun _ hk => hk); have e0 := hcc12 1 _ rfl; (try simp only [show (k29).sz = 4 from rfl, Nat.mul_one, Nat.add_zero] at e0); have hf12_1 := hfr12 1; (try simp only [show (k29).sz = 4 from rfl, Nat.mul_one, Nat.add_zero] at hf12_1); clear hcl12 hcc12 hfr12 hM12) | ((with_reducible refine gate_store (t := 3) (p := 23) rfl ?_); refine store_event (t := 3) (p := 23) (v := ?vo_w13) (w1 := (B.setCell ⟨go5, (a : Int).toNat * 4 + 1, none⟩ (.int .i64 (wrap64 (o + 1))))) ?hg ?ho ?hn ?hr ?_; (case ho => rfl); (case hg => rfl); (case hn => rfl); (case hr => first | (go_simp; done) | (go_simp; rfl)); intro D hw; have hg : B.grownBy D (some go5) := (by rw [hw]; exact HP12.2); have hp_ : Kd.R k29 29 D w0.heap.size (fun k_ => (z k_ ∨ w.heap.size ≤ k_)) (.slice (some ⟨go5, 0, none⟩) l.length O) x := (by rw [hw, Ny228.out]; exact HP12.1); clear HP12; have T := zK (hp_); have U := zK ((by rw [hw]; exact zs (HB.out) GB5.out : Below w0.heap.size w0 D)); have X := zK (Kept.of_grown (S := (fun k_ => z k_)) hg (by repeat (first | (with_reducible first | exact HK.out | apply Kept.alloc | apply Kept.drewN | apply Kept.drew) | exact HK.out)) (fun k_ e_ => (q.out.1 k_ e_))); revert T U X; clear q HB HK; intro q HB HK; clear hg hw hp_; have p7 : 0 ≤ (a : Int) := z3; have q7 : (a : Int) < ((l.length : Int) : Int) := z3; obtain ⟨ce7, hcl7, hM7, hcc7, hfr7⟩ := Kd.R_elem q.out z29 (a : Int) p7 q7; obtain rfl := k29_openM hM7; have V0 : D.cell? ⟨go5, (a : Int).toNat * 4, none⟩ = some (.int .i64 ((rd_T29 x a).f0)) := hcc7 0 _ rfl; have X0 : D.cell? ⟨go5, (a : Int).toNat * 4 + 1, none⟩ = some (.int .i64 ((rd_T29 x a).f1)) := hcc7 1 _ rfl; have b1 : D.cell? ⟨go5, (a : Int).toNat * 4 + 2, none⟩ = some (.int .i64 ((rd_T29 x a).f2)) := hcc7 2 _ rfl; have c1 : D.cell? ⟨go5, (a : Int).toNat * 4 + 3, none⟩ = some (.bool ((rd_T29 x a).f3)) := hcc7 3 _ rfl; have hf7_0 : D.frozen? ⟨go5, (a : Int).toNat * 4, none⟩ = false := hfr7 0; have hf7_1 : D.frozen? ⟨go5, (a : Int).toNat * 4 + 1, none⟩ = false := hfr7 1; have hf7_2 : D.frozen? ⟨go5, (a : Int).toNat * 4 + 2, none⟩ = false := hfr7 2; have hf7_3 : D.frozen? ⟨go5, (a : Int).toNat * 4 + 3, none⟩ = false := hfr7 3; clear hcl7 hcc7 hfr7 hM7; replace p7 := eq_true p7; replace q7 := eq_true q7; have HX14 := zK (show Kd.R k29 29 D w0.heap.size (fun k_ => (z k_ ∨ w.heap.size ≤ k_)) (.slice (some ⟨go5, 0, none⟩) l.length O) x from (zkR q)); obtain ⟨ce14, hcl14, hM14, hcc14, hfr14⟩ := Kd.R_elem HX14.out z29 (a : Int) (z3) (by have h_ : (a : Int) < ((l.length : Int) : Int) := z3; first | exact h_ | (have e_ := (Kd.R_reads' q.out).1; omega) | simpa using h_); obtain rfl := k29_openM hM14; have HP14 := Kd.R_seg HX14.out (a : Int) (z3) (by have h_ : (a : Int) < ((l.length : Int) : Int) := z3; first | exact h_ | (have e_ := (Kd.R_reads' q.out).1; omega) | simpa using h_) (seg := [.int .i64 (wrap64 ((wrap64 (o + 1)) + 1))]) (j := 2) hcl14 hcc14 (show 3 ≤ 4 from by decide) (x' := (⟨(rd_T29 x a).f0, (rd_T29 x a).f1, wrap64 ((wrap64 (o + 1)) + 1), (rd_T29 x a).f3⟩ : S29)) (k29_mkM _ _ _ (⟨(rd_T29 x a).f0, (rd_T29 x a).f1, wrap64 ((wrap64 (o + 1)) + 1), (rd_T29 x a).f3⟩ : S29) ) (fun _ hk => hk); have g0 := hcc14 2 _ rfl; (try simp only [show (k29).sz = 4 from rfl, Nat.mul_one, Nat.add_zero] at g0); have hf14_2 := hfr14 2; (try simp only [show (k29).sz = 4 from rfl, Nat.mul_one, Nat.add_zero] at hf14_2); clear hcl14 hcc14 hfr14 hM14) | ((with_reducible refine gate_store (t := 3) (p := 30) rfl ?_); refine store_event (t := 3) (p := 30) (v := ?vo_w15) (w1 := (D.setCell ⟨go5, (a : Int).toNat * 4 + 2, none⟩ (.int .i64 (wrap64 ((wrap64 (o + 1)) + 1))))) ?hg ?ho ?hn ?hr ?_; (case ho => rfl); (case hg => rfl); (case hn => rfl); (case hr => first | (go_simp; done) | (go_simp; rfl)); intro E hw; have hg : D.grownBy E (some go5) := (by rw [hw]; exact HP14.2); have hp_ : Kd.R k29 29 E w0.heap.size (fun k_ => (z k_ ∨ w.heap.size ≤ k_)) (.slice (some ⟨go5, 0, none⟩) l.length O) u := (by rw [hw, Ny229.out]; exact HP14.1); clear HP14; have T := zK (hp_); have U := zK ((by rw [hw]; exact zs (HB.out) GB5.out : Below w0.heap.size w0 E)); have X := zK (Kept.of_grown (S := (fun k_ => z k_)) hg (by repeat (first | (with_reducible first | exact HK.out | apply Kept.alloc | apply Kept.drewN | apply Kept.drew) | exact HK.out)) (fun k_ e_ => (q.out.1 k_ e_))); revert T U X; clear q HB HK; intro q HB HK; clear hg hw hp_; have p8 : 0 ≤ (a : Int) := z3; have q8 : (a : Int) < ((l.length : Int) : Int) := z3; obtain ⟨ce8, hcl8, hM8, hcc8, hfr8⟩ := Kd.R_elem q.out z29 (a : Int) p8 q8; obtain rfl := k29_openM hM8; have d1 : E.cell? ⟨go5, (a : Int).toNat * 4, none⟩ = some (.int .i64 ((rd_T29 u a).f0)) := hcc8 0 _ rfl; have e1 : E.cell? ⟨go5, (a : Int).toNat * 4 + 1, none⟩ = some (.int .i64 ((rd_T29 u a).f1)) := hcc8 1 _ rfl; have g1 : E.cell? ⟨go5, (a : Int).toNat * 4 + 2, none⟩ = some (.int .i64 ((rd_T29 u a).f2)) := hcc8 2 _ rfl; have i1 : E.cell? ⟨go5, (a : Int).toNat * 4 + 3, none⟩ = some (.bool ((rd_T29 u a).f3)) := hcc8 3 _ rfl; have hf8_0 : E.frozen? ⟨go5, (a : Int).toNat * 4, none⟩ = false := hfr8 0; have hf8_1 : E.frozen? ⟨go5, (a : Int).toNat * 4 + 1, none⟩ = false := hfr8 1; have hf8_2 : E.frozen? ⟨go5, (a : Int).toNat * 4 + 2, none⟩ = false := hfr8 2; have hf8_3 : E.frozen? ⟨go5, (a : Int).toNat * 4 + 3, none⟩ = false := hfr8 3; clear hcl8 hcc8 hfr8 hM8; replace p8 := eq_true p8; replace q8 := eq_true q8; have HX16 := zK (show Kd.R k29 29 E w0.heap.size (fun k_ => (z k_ ∨ w.heap.size ≤ k_)) (.slice (some ⟨go5, 0, none⟩) l.length O) u from (zkR q)); obtain ⟨ce16, hcl16, hM16, hcc16, hfr16⟩ := Kd.R_elem HX16.out z29 (a : Int) (z3) (by have h_ : (a : Int) < ((l.length : Int) : Int) := z3; first | exact h_ | (have e_ := (Kd.R_reads' q.out).1; omega) | simpa using h_); obtain rfl := k29_openM hM16; have HP16 := Kd.R_seg HX16.out (a : Int) (z3) (by have h_ : (a : Int) < ((l.length : Int) : Int) := z3; first | exact h_ | (have e_ := (Kd.R_reads' q.out).1; omega) | simpa using h_) (seg := [.bool ((Int.tmod (wrap64 ((wrap64 ((wrap64 (o + 1)) + 1)) + 1)) 3) == 0)]) (j := 3) hcl16 hcc16 (show 4 ≤ 4 from by decide) (x' := (⟨(rd_T29 u a).f0, (rd_T29 u a).f1, (rd_T29 u a).f2, ((Int.tmod (wrap64 ((wrap64 ((wrap64 (o + 1)) + 1)) + 1)) 3) == 0)⟩ : S29)) (k29_mkM _ _ _ (⟨(rd_T29 u a).f0, (rd_T29 u a).f1, (rd_T29 u a).f2, ((Int.tmod (wrap64 ((wrap64 ((wrap64 (o + 1)) + 1)) + 1)) 3) == 0)⟩ : S29) ) (fun _ hk => hk); have i0 := hcc16 3 _ rfl; (try simp only [show (k29).sz = 4 from rfl, Nat.mul_one, Nat.add_zero] at i0); have hf16_3 := hfr16 3; (try simp only [show (k29).sz = 4 from rfl, Nat.mul_one, Nat.add_zero] at hf16_3); clear hcl16 hcc16 hfr16 hM16) | ((with_reducible refine gate_store (t := 4) (p := 39) rfl ?_); refine store_event (t := 4) (p := 39) (v := ?vo_w17) (w1 := (E.setCell ⟨go5, (a : Int).toNat * 4 + 3, none⟩ (.bool ((Int.tmod (wrap64 ((wrap64 ((wrap64 (o + 1)) + 1)) + 1)) 3) == 0)))) ?hg ?ho ?hn ?hr ?_; (case ho => rfl); (case hg => rfl); (case hn => rfl); (case hr => first | (go_simp; done) | (go_simp; rfl)); intro j0 hw; have hg : E.grownBy j0 (some go5) := (by rw [hw]; exact HP16.2); have hp_ : Kd.R k29 29 j0 w0.heap.size (fun k_ => (z k_ ∨ w.heap.size ≤ k_)) (.slice (some ⟨go5, 0, none⟩) l.length O) a0 := (by rw [hw, Ny230.out]; exact HP16.1); clear HP16; have T := zK (hp_); have U := zK ((by rw [hw]; exact zs (HB.out) GB5.out : Below w0.heap.size w0 j0)); have X := zK (Kept.of_grown (S := (fun k_ => z k_)) hg (by repeat (first | (with_reducible first | exact HK.out | apply Kept.alloc | apply Kept.drewN | apply Kept.drew) | exact HK.out)) (fun k_ e_ => (q.out.1 k_ e_))); revert T U X; clear q HB HK; intro q HB HK; clear hg hw hp_))
 go_roundg k1
 case measure => have := o0.out; omega
 case rel => exact ⟨(a0), (wrap64 ((wrap64 ((wrap64 ((wrap64 (o + 1)) + 1)) + 1)) + 1)), (wrap64 (a + 1)), zR, zR, H', ⟨by have := o0.out; omega⟩, ⟨zkR q⟩, ⟨by repeat (first | (with_reducible first | exact HK.out | apply Kept.alloc | apply Kept.drewN | apply Kept.drew) | exact HK.out)⟩, ⟨zB⟩⟩
def laws_heldSlotS.l0 : Nat → List (S29) → Int → Int → Option (Int)
 | 0, _, _, _ => none
 | k + 1, l, o, a => if a < (l.length : Int) then (if 0 ≤ a then (if ((rd_T29 l a).f0) = o then (if ((rd_T29 l a).f1) = (wrap64 (o + 1)) then (if ((rd_T29 l a).f2) = (wrap64 ((wrap64 (o + 1)) + 1)) then (if (((rd_T29 l a).f3) != ((Int.tmod (wrap64 ((wrap64 ((wrap64 (o + 1)) + 1)) + 1)) 3) == 0)) = true then (some (-1)) else (laws_heldSlotS.l0 k l (wrap64 ((wrap64 ((wrap64 ((wrap64 (o + 1)) + 1)) + 1)) + 1)) (wrap64 (a + 1)))) else (some (-1))) else (some (-1))) else (some (-1))) else (none)) else (some o)
def laws_heldSlotS.f (k : Nat) (a : List (S29)) (l : Int) : Option (Int) := laws_heldSlotS.l0 k a l 0
theorem laws_heldSlotS.calls (k) (A0) (c0) (u : List (S29)) (a1) (r) (w) (J0 : Kd.C k29 w A0 u.length u) (L0 : u.length ≤ c0) (h : laws_heldSlotS.f k u a1 = some r) :
 Calls Try.prog 8 #[.slice A0 u.length c0, .int .i64 a1] w fun e w' => e = .returned (.int .i64 r) ∧ Drawn0 w w' := by
 have D := zK J0
 have j1 := zK L0
 clear J0 L0
 have H : (laws_heldSlotS.l0 k u a1 0) = some r := h
 clear h
 have H' := zK H
 clear H
 go_enter Try.func8, Try.ntmps8
 go_wp2
 go_loopg [1, 5] k (fun kq v1 v5 w' => ∃ (x : Int) (a : Int), v1 = .int .i64 x ∧ v5 = .int .i64 a ∧ Aside0 (laws_heldSlotS.l0 kq u x a = some r) ∧ Aside0 (kq ≤ k) ∧ Drawn0 w w')
 case atStart => exact ⟨(a1), (0), zR, zR, H', ⟨Nat.le_refl _⟩, zD⟩
 clear H'
 try clear p2
 obtain ⟨x, a, rfl, rfl, HA, M0, ⟨m1, rfl⟩⟩ := hrel
 rcases gk with _ | k1
 · exact absurd HA.out (by simp [laws_heldSlotS.l0])
 have H := HA.out
 clear HA
 simp only [laws_heldSlotS.l0] at H
 by_cases c3 : a < (u.length : Int)
 rotate_left
 · rw [if_neg c3] at H
   have N0 := z2 c3
   clear c3
   obtain rfl := z5 H
   go_wp2
   go_ret
   exact ⟨zR, zD⟩
 rw [if_pos c3] at H
 have N0 := z1 c3
 clear c3
 by_cases c4 : 0 ≤ a
 rotate_left
 · rw [if_neg c4] at H
   exact absurd H (by simp)
 rw [if_pos c4] at H
 have g1 := z1 c4
 clear c4
 by_cases c5 : ((rd_T29 u a).f0) = x
 rotate_left
 · rw [if_neg c5] at H
   have O0 := beq_eq_false_iff_ne.mpr c5
   have R0 := bne_iff_ne.mpr c5
   obtain rfl := z5 H
   have l : 0 ≤ (a : Int) := z3
   have o : a < (u.length : Int) := z3
   obtain ⟨q, E, J, L, M, O⟩ := at_T29 D.out a l o
   cases E
   replace l := eq_true l
   replace o := eq_true o
   go_wp2
   go_ret
   exact ⟨zR, zD⟩
 rw [if_pos c5] at H
 have O0 := beq_iff_eq.mpr c5
 have R0 := bne_eq_false_iff_eq.mpr c5
 clear c5
 by_cases c6 : ((rd_T29 u a).f1) = (wrap64 (x + 1))
 rotate_left
 · rw [if_neg c6] at H
   have S0 := beq_eq_false_iff_ne.mpr c6
   have T0 := bne_iff_ne.mpr c6
   obtain rfl := z5 H
   have l : 0 ≤ (a : Int) := z3
   have o : a < (u.length : Int) := z3
   obtain ⟨q, E, J, L, M, O⟩ := at_T29 D.out a l o
   cases E
   replace l := eq_true l
   replace o := eq_true o
   have y : 0 ≤ (a : Int) := z3
   have z : a < (u.length : Int) := z3
   obtain ⟨I, T, b0, d0, e0, g0⟩ := at_T29 D.out a y z
   obtain rfl : q = I := (by injection T)
   replace y := eq_true y
   replace z := eq_true z
   go_wp2
   go_ret
   exact ⟨zR, zD⟩
 rw [if_pos c6] at H
 have S0 := beq_iff_eq.mpr c6
 have T0 := bne_eq_false_iff_eq.mpr c6
 clear c6
 by_cases c7 : ((rd_T29 u a).f2) = (wrap64 ((wrap64 (x + 1)) + 1))
 rotate_left
 · rw [if_neg c7] at H
   have U0 := beq_eq_false_iff_ne.mpr c7
   have V0 := bne_iff_ne.mpr c7
   obtain rfl := z5 H
   have l : 0 ≤ (a : Int) := z3
   have o : a < (u.length : Int) := z3
   obtain ⟨q, E, J, L, M, O⟩ := at_T29 D.out a l o
   cases E
   replace l := eq_true l
   replace o := eq_true o
   have y : 0 ≤ (a : Int) := z3
   have z : a < (u.length : Int) := z3
   obtain ⟨I, T, b0, d0, e0, g0⟩ := at_T29 D.out a y z
   obtain rfl : q = I := (by injection T)
   replace y := eq_true y
   replace z := eq_true z
   have A : 0 ≤ (a : Int) := z3
   have B : a < (u.length : Int) := z3
   obtain ⟨a0, i0, m0, n0, o0, p0⟩ := at_T29 D.out a A B
   obtain rfl : q = a0 := (by injection i0)
   replace A := eq_true A
   replace B := eq_true B
   go_wp2
   go_ret
   exact ⟨zR, zD⟩
 rw [if_pos c7] at H
 have U0 := beq_iff_eq.mpr c7
 have V0 := bne_eq_false_iff_eq.mpr c7
 clear c7
 by_cases c8 : (((rd_T29 u a).f3) != ((Int.tmod (wrap64 ((wrap64 ((wrap64 (x + 1)) + 1)) + 1)) 3) == 0)) = true
 · rw [if_pos c8] at H
   have X0 : (((rd_T29 u a).f3) != ((Int.tmod (wrap64 ((wrap64 ((wrap64 (x + 1)) + 1)) + 1)) 3) == 0)) = true := c8
   (try (have b1 : decide (((rd_T29 u a).f3) = ((Int.tmod (wrap64 ((wrap64 ((wrap64 (x + 1)) + 1)) + 1)) 3) == 0)) = false := by simpa using c8))
   (try (have c1 : (((rd_T29 u a).f3) == ((Int.tmod (wrap64 ((wrap64 ((wrap64 (x + 1)) + 1)) + 1)) 3) == 0)) = false := by simpa using c8))
   (try (have i1 : ¬ (((rd_T29 u a).f3) = ((Int.tmod (wrap64 ((wrap64 ((wrap64 (x + 1)) + 1)) + 1)) 3) == 0)) := by simpa using c8))
   clear c8
   obtain rfl := z5 H
   have l : 0 ≤ (a : Int) := z3
   have o : a < (u.length : Int) := z3
   obtain ⟨q, E, J, L, M, O⟩ := at_T29 D.out a l o
   cases E
   replace l := eq_true l
   replace o := eq_true o
   have y : 0 ≤ (a : Int) := z3
   have z : a < (u.length : Int) := z3
   obtain ⟨I, T, b0, d0, e0, g0⟩ := at_T29 D.out a y z
   obtain rfl : q = I := (by injection T)
   replace y := eq_true y
   replace z := eq_true z
   have A : 0 ≤ (a : Int) := z3
   have B : a < (u.length : Int) := z3
   obtain ⟨a0, i0, m0, n0, o0, p0⟩ := at_T29 D.out a A B
   obtain rfl : q = a0 := (by injection i0)
   replace A := eq_true A
   replace B := eq_true B
   have U : 0 ≤ (a : Int) := z3
   have X : a < (u.length : Int) := z3
   obtain ⟨q0, y0, C0, D0, E0, F0⟩ := at_T29 D.out a U X
   obtain rfl : q = q0 := (by injection y0)
   replace U := eq_true U
   replace X := eq_true X
   go_wp2
   go_ret
   exact ⟨zR, zD⟩
 rw [if_neg c8] at H
 have X0 : (((rd_T29 u a).f3) != ((Int.tmod (wrap64 ((wrap64 ((wrap64 (x + 1)) + 1)) + 1)) 3) == 0)) = false := by simpa using c8
 (try (have b1 : decide (((rd_T29 u a).f3) = ((Int.tmod (wrap64 ((wrap64 ((wrap64 (x + 1)) + 1)) + 1)) 3) == 0)) = true := by simpa using c8))
 (try (have c1 : (((rd_T29 u a).f3) == ((Int.tmod (wrap64 ((wrap64 ((wrap64 (x + 1)) + 1)) + 1)) 3) == 0)) = true := by simpa using c8))
 clear c8
 have H' := zK H
 clear H
 have l : 0 ≤ (a : Int) := z3
 have o : a < (u.length : Int) := z3
 obtain ⟨q, E, J, L, M, O⟩ := at_T29 D.out a l o
 cases E
 replace l := eq_true l
 replace o := eq_true o
 have y : 0 ≤ (a : Int) := z3
 have z : a < (u.length : Int) := z3
 obtain ⟨I, T, b0, d0, e0, g0⟩ := at_T29 D.out a y z
 obtain rfl : q = I := (by injection T)
 replace y := eq_true y
 replace z := eq_true z
 have A : 0 ≤ (a : Int) := z3
 have B : a < (u.length : Int) := z3
 obtain ⟨a0, i0, m0, n0, o0, p0⟩ := at_T29 D.out a A B
 obtain rfl : q = a0 := (by injection i0)
 replace A := eq_true A
 replace B := eq_true B
 have U : 0 ≤ (a : Int) := z3
 have X : a < (u.length : Int) := z3
 obtain ⟨q0, y0, C0, D0, E0, F0⟩ := at_T29 D.out a U X
 obtain rfl : q = q0 := (by injection y0)
 replace U := eq_true U
 replace X := eq_true X
 go_wp2
 go_roundg k1
 case measure => have := M0.out; omega
 case rel => exact ⟨(wrap64 ((wrap64 ((wrap64 ((wrap64 (x + 1)) + 1)) + 1)) + 1)), (wrap64 (a + 1)), zR, zR, H', ⟨by have := M0.out; omega⟩, zD⟩
end Go.Proofs.Ytiabkadcgmamaaa.PFnExactFillSlots
