-- Printed out of the translation by this session's own turned copy of a printer; Lean checks it.
import Derived.Test.YtodfhokndnmdoaaPFnFactorx0
import Derived.Test.YtodfhokndnmdoaaPFnFactorx12
import Derived.Test.YtodfhokndnmdoaaPFnFactorx13
import Derived.Test.YtodfhokndnmdoaaPFnFactorx14
namespace Go.Proofs.Ytodfhokndnmdoaa.PFnFactor
open Go.RowKit Go.Proofs.YtodfhokndnmdoaaW.PrintWords Go.Proofs.YtodfhokndnmdoaaW.PrintLast Go.Proofs.YtodfhokndnmdoaaW.PrintMore
attribute [local go_sem] max2_int min2_int max_two min_two max_three min_three max_four min_four
set_option linter.unusedVariables false
set_option linter.unusedSimpArgs false
set_option maxHeartbeats 8000000
set_option maxRecDepth 100000
theorem ww15a {P : Prop} (h : P := by repeat (first | (with_reducible first | exact HI0.out | apply IsS94.alloc | apply IsS94.drewN | apply IsS94.drew | apply IsS94.set_1 | apply IsS94.set_2) | exact HI0.out)) : P := h
theorem ww15b {P : Prop} (h : P := by repeat (first | (with_reducible first | exact HK.out | apply KeepBut.set_ | apply keep_drewN | apply keep_drew | apply keep_alloc) | exact HK.out)) : P := h
theorem ww15c {P : Prop} (h : P := by repeat (first | (with_reducible first | exact HB.out | apply zb | apply zw | apply ze | refine zs ?_ (IsS94.ge HI0.out)) | exact HB.out)) : P := h
theorem ww15d {P : Prop} (h : P := by repeat (first | (with_reducible first | exact HI549.out | apply IsS94.alloc | apply IsS94.drewN | apply IsS94.drew | apply IsS94.set_1 | apply IsS94.set_2 | refine IsS94.far ?_ U.out _ | refine IsS94.far ?_ X.out _ | refine IsS94.far ?_ d0.out _ | refine IsS94.far ?_ p0.out _) | exact HI549.out)) : P := h
theorem ww15e {P : Prop} (h : P := by repeat (first | (with_reducible first | exact HB.out | apply zb | apply zw | apply ze | refine zs ?_ (IsS94.ge HI549.out) | refine zs ?_ x0.out | refine zs ?_ y0.out | refine zs ?_ V0.out) | exact HB.out)) : P := h
theorem ww15f {P : Prop} (h : P := by repeat (first | (with_reducible first | exact HB.out | apply zb | apply zw | apply ze | refine zs ?_ (IsS94.ge HI549.out) | refine zs ?_ x0.out | refine zs ?_ y0.out | refine zs ?_ V0.out | refine zs ?_ I1.out) | exact HB.out)) : P := h
theorem ww15g {P : Prop} (h : P := by repeat (first | (with_reducible first | exact HI549.out | apply IsS94.alloc | apply IsS94.drewN | apply IsS94.drew | apply IsS94.set_1 | apply IsS94.set_2 | refine IsS94.far ?_ U.out _ | refine IsS94.far ?_ X.out _) | exact HI549.out)) : P := h
theorem ww15h {P : Prop} (h : P := by repeat (first | (with_reducible first | exact HB.out | apply zb | apply zw | apply ze | refine zs ?_ (IsS94.ge HI549.out) | refine zs ?_ x0.out | refine zs ?_ y0.out) | exact HB.out)) : P := h
theorem ww15i {P : Prop} (h : P := by repeat (first | (with_reducible first | exact HI549.out | apply IsS94.alloc | apply IsS94.drewN | apply IsS94.drew | apply IsS94.set_1 | apply IsS94.set_2 | refine IsS94.far ?_ U.out _ | refine IsS94.far ?_ X.out _ | refine IsS94.far ?_ d0.out _) | exact HI549.out)) : P := h
def spec_l15DrawGrad.l0 : Nat → Int → List Int → List Int → Int → Int → Option (List Int × Int × Int)
 | 0, _, _, _, _, _ => none
 | k + 1, L, z, q, I, J => if L > 0 then ((spec_l1Below.f q I J 200000).bind fun A => ((spec_l1Once.f q A.2.1 A.2.2 20).bind fun y => (if y.1 = true then ((spec_l1PickInt.f q y.2.1 y.2.2 (([16777216, (-16777216), 0] : List Int))).bind fun D => (if z.length < 17592186044416 then (spec_l15DrawGrad.l0 k (wrap64 (L - 1)) (z ++ [D.1]) q D.2.1 D.2.2) else (none))) else (if z.length < 17592186044416 then (spec_l15DrawGrad.l0 k (wrap64 (L - 1)) (z ++ [wrap64 (A.1 - 100000)]) q y.2.1 y.2.2) else (none))))) else ((spec_l1Once.f q I J 12).bind fun u => (if u.1 = true then (if (z.length : Int) > 0 then ((spec_l1PickInt.f q u.2.1 u.2.2 (([16777217, (-16777217), 4611686018427387904] : List Int))).bind fun E => (if 0 < (z.length : Int) then (some ((z.set (0 : Int).toNat E.1), E.2.1, E.2.2)) else (none))) else (some (z, u.2.1, u.2.2))) else (some (z, u.2.1, u.2.2))))
def spec_l15DrawGrad.f (k : Nat) (q : List Int) (u : Int) (y : Int) (z : Int) : Option (List Int × Int × Int) := spec_l15DrawGrad.l0 k z (([] : List Int)) q u y
theorem spec_l15DrawGrad.calls (k) (g) (u : List Int) (A0) (B0) (a1) (r1 : List Int) (r2) (r3) (w0 w : World) (hI : IsS94 w0 w g u A0 B0) (hB : Below w0.heap.size w0 w) (h : spec_l15DrawGrad.f k u A0 B0 a1 = some (r1, r2, r3)) :
 Calls Try.prog 59 #[.pointer (some ⟨g, 0, none⟩), .int .i64 a1] w fun e w' => ∃ v0_ : Value, e = .returned (v0_) ∧ Kd.R (Kd.int .i64) 3 w' w.heap.size (fun _ => True) v0_ r1 ∧ IsS94 w0 w' g u r2 r3 ∧ Below w0.heap.size w0 w' ∧ KeepBut w w' g none := by
 have HI0 := zK hI
 have HK := zK (KeepBut.refl w g none)
 have HL := zK hB.size
 clear hI
 have HW0 := zK hB.size
 have HB := zK hB
 clear hB
 have H : (spec_l15DrawGrad.l0 k a1 (([] : List Int)) u A0 B0) = some (r1, r2, r3) := h
 clear h
 obtain ⟨g1, m0⟩ : ∃ y_ : List Int, y_ = (([] : List Int)) := ⟨_, rfl⟩
 replace H : (spec_l15DrawGrad.l0 k a1 g1 u A0 B0) = some (r1, r2, r3) := by first | (rw [m0]; with_reducible exact H) | (have L := (Option.bind_some _ _).symm.trans H; rw [m0]; with_reducible exact L) | (have L := (Option.bind_some _ _).symm.trans H; with_reducible exact L) | with_reducible exact H | (rw [m0]; exact H) | exact H
 have Ny513 := zK m0
 clear m0
 have H' := zK H
 clear H
 go_enter Try.func59, Try.ntmps59
 go_wp2_with (first | ((with_reducible refine gd 7 rfl ?_); (try (refine gate_guard (by rfl) ?_; dsimp only)); refine Kd.R_lit (Kd.int .i64) _ 3 ?hg (N := 7) ?hd (xs := ([] : List Int)) (inner := []) (ok := fun _ => True) (okp := fun _ => True) ?hr ?hp (fun _ hk => hk) trivial (Below.refl _ _) (Nat.le_refl _) (by simp) ?_; (case hd => rfl); (case hg => rfl); (case hr => first | (go_simp; done) | (go_simp; rfl)); (case hp => exact (Reps.none _ _)); intro v514 w3 L0 hb hg_ hnew_; clear hg_ hnew_; (first | rw [← Ny513.out] at L0 | (simp only [Int.reduceToNat] at L0; rw [← Ny513.out] at L0)); have D := zK (Kd.R_lower L0 (keep_size (w := w) (g := g) (row := none) (ww15b))); have E := zK (IsS94.below (ww15a) hb); have I := zK (KeepBut.trans (ww15b) (KeepBut.of_below hb g none) (.inl rfl)); have J := zK (zp (ww15c) hb); revert D E I J; clear HI0 HK HB; intro D1 HI0 HK HB; clear hb L0))
 go_loopg [1, 5] k (fun kq v1 v5 w' => ∃ (O : Int) (y : List Int) (z : Int) (A : Int), v1 = .int .i64 O ∧ Aside0 (spec_l15DrawGrad.l0 kq O y u z A = some (r1, r2, r3)) ∧ Aside0 (kq ≤ k) ∧ Aside0 (Kd.R (Kd.int .i64) 3 w' w.heap.size (fun _ => True) v5 y) ∧ Aside0 (IsS94 w0 w' g u z A) ∧ Aside0 (KeepBut w w' g none) ∧ Aside0 (Below w0.heap.size w0 w'))
 case atStart => exact ⟨(a1), (g1), (A0), (B0), zR, H', ⟨Nat.le_refl _⟩, ⟨zkR D1⟩, ⟨ww15a⟩, ⟨ww15b⟩, ⟨ww15c⟩⟩
 clear H'
 try clear p2
 obtain ⟨O, y, z, A, rfl, HA, U0, q, HI0, HK, HB⟩ := hrel
 rcases gk with _ | k1
 · exact absurd HA.out (by simp [spec_l15DrawGrad.l0])
 have H := HA.out
 clear HA
 simp only [spec_l15DrawGrad.l0] at H
 by_cases c5 : O > 0
 rotate_left
 · rw [if_neg c5] at H
   have R1 := z2 c5
   clear c5
   replace H := z6 H
   obtain ⟨⟨i1, a0, b0⟩, j1, H⟩ := H
   replace H : (if i1 = true then (if (y.length : Int) > 0 then ((spec_l1PickInt.f u a0 b0 (([16777217, (-16777217), 4611686018427387904] : List Int))).bind fun e0 => (if 0 < (y.length : Int) then (some ((y.set (0 : Int).toNat e0.1), e0.2.1, e0.2.2)) else (none))) else (some (y, a0, b0))) else (some (y, a0, b0))) = some (r1, r2, r3) := H
   have l1 := zK j1
   clear j1
   by_cases V0 : i1 = true
   rotate_left
   · replace V0 := Bool.eq_false_iff.mpr V0
     subst V0
     rw [if_neg (show ¬ (false = true) by decide)] at H
     simp only [Option.some.injEq, Prod.mk.injEq] at H
     obtain ⟨rfl, rfl, rfl⟩ := H
     go_wp2_with (first | ((with_reducible refine gc 76 rfl ?_); refine zF 25 Try.func76 #[.pointer (some ⟨g, 0, none⟩), .int .i64 12] rfl zL ?_; (with_reducible refine (spec_l1Once.calls g u z A 12 false a0 b0 w0 _ ?side1 ?side2 l1.out).mono ?_); (case side1 => exact ww15a); (case side2 => exact ww15c); rintro e l2 ⟨rfl, hi, hb, hk⟩; refine ⟨_, rfl, ?_⟩; have D := zK (Kd.R_mono (Kd.R_keep (IsS94.apart (show IsS94 w0 _ g u z A from ww15a) (zkR q) (by decide)) hk (fun _ h => h.2)) (fun _ h => h.1)); have E := zK (KeepBut.trans (ww15b) hk (.inl rfl)); have I := zK (hb); have J := zK (hi); revert D E I J; clear q HK HB HI0; intro q HK HB HI0))
     go_ret
     exact ⟨_, zE, zkR q, ww15a, ww15c, ww15b⟩
   subst V0
   rw [if_pos rfl] at H
   by_cases F0 : (y.length : Int) > 0
   rotate_left
   · rw [if_neg F0] at H
     have E1 := z2 F0
     have F1 : decide (0 < y.length) = false := z2 (by omega)
     clear F0
     simp only [Option.some.injEq, Prod.mk.injEq] at H
     obtain ⟨rfl, rfl, rfl⟩ := H
     go_wp2_with (first | ((with_reducible refine gc 76 rfl ?_); refine zF 25 Try.func76 #[.pointer (some ⟨g, 0, none⟩), .int .i64 12] rfl zL ?_; (with_reducible refine (spec_l1Once.calls g u z A 12 true a0 b0 w0 _ ?side1 ?side2 l1.out).mono ?_); (case side1 => exact ww15a); (case side2 => exact ww15c); rintro e m2 ⟨rfl, hi, hb, hk⟩; refine ⟨_, rfl, ?_⟩; have D := zK (Kd.R_mono (Kd.R_keep (IsS94.apart (show IsS94 w0 _ g u z A from ww15a) (zkR q) (by decide)) hk (fun _ h => h.2)) (fun _ h => h.1)); have E := zK (KeepBut.trans (ww15b) hk (.inl rfl)); have I := zK (hb); have J := zK (hi); revert D E I J; clear q HK HB HI0; intro q HK HB HI0; obtain ⟨e2, f2, S1⟩ := Kd.R_slice q.out; subst S1))
     go_ret
     exact ⟨_, zE, zkR q, ww15a, ww15c, ww15b⟩
   rw [if_pos F0] at H
   have E1 := z1 F0
   have F1 : decide (0 < y.length) = true := z1 (by omega)
   clear F0
   obtain ⟨C0, n0⟩ : ∃ y_ : List Int, y_ = (([16777217, (-16777217), 4611686018427387904] : List Int)) := ⟨_, rfl⟩
   replace H : ((spec_l1PickInt.f u a0 b0 C0).bind fun e0 => (if 0 < (y.length : Int) then (some ((y.set (0 : Int).toNat e0.1), e0.2.1, e0.2.2)) else (none))) = some (r1, r2, r3) := by first | (rw [n0]; with_reducible exact H) | (have L := (Option.bind_some _ _).symm.trans H; rw [n0]; with_reducible exact L) | (have L := (Option.bind_some _ _).symm.trans H; with_reducible exact L) | with_reducible exact H | (rw [n0]; exact H) | exact H
   have Ny537 := zK n0
   clear n0
   replace H := z6 H
   obtain ⟨⟨D0, N0, O0⟩, m1, H⟩ := H
   replace H : (if 0 < (y.length : Int) then (some ((y.set (0 : Int).toNat D0), N0, O0)) else (none)) = some (r1, r2, r3) := H
   have X1 := zK m1
   clear m1
   by_cases X0 : 0 < (y.length : Int)
   rotate_left
   · rw [if_neg X0] at H
     exact absurd H (by simp)
   rw [if_pos X0] at H
   have c2 := z1 X0
   have d2 : decide (0 < y.length) = true := z1 (by omega)
   clear X0
   obtain ⟨n1, o0⟩ : ∃ y_ : List Int, y_ = (y.set (0 : Int).toNat D0) := ⟨_, rfl⟩
   replace H : (some (n1, N0, O0)) = some (r1, r2, r3) := by first | (rw [o0]; with_reducible exact H) | (have L := (Option.bind_some _ _).symm.trans H; rw [o0]; with_reducible exact L) | (have L := (Option.bind_some _ _).symm.trans H; with_reducible exact L) | with_reducible exact H | (rw [o0]; exact H) | exact H
   have Ny543 := zK o0
   clear o0
   simp only [Option.some.injEq, Prod.mk.injEq] at H
   obtain ⟨rfl, rfl, rfl⟩ := H
   go_wp2_with (first | ((with_reducible refine gc 76 rfl ?_); refine zF 25 Try.func76 #[.pointer (some ⟨g, 0, none⟩), .int .i64 12] rfl zL ?_; (with_reducible refine (spec_l1Once.calls g u z A 12 true a0 b0 w0 _ ?side1 ?side2 l1.out).mono ?_); (case side1 => exact ww15a); (case side2 => exact ww15c); rintro e n2 ⟨rfl, hi, hb, hk⟩; refine ⟨_, rfl, ?_⟩; have D := zK (Kd.R_mono (Kd.R_keep (IsS94.apart (show IsS94 w0 _ g u z A from ww15a) (zkR q) (by decide)) hk (fun _ h => h.2)) (fun _ h => h.1)); have E := zK (KeepBut.trans (ww15b) hk (.inl rfl)); have I := zK (hb); have J := zK (hi); revert D E I J; clear q HK HB HI0; intro q HK HB HI0; obtain ⟨g2, R0, T1⟩ := Kd.R_slice q.out; subst T1) | ((with_reducible refine gd 33 rfl ?_); (try (refine gate_guard (by rfl) ?_; dsimp only)); refine Kd.R_lit (Kd.int .i64) _ 3 ?hg (N := 33) ?hd (xs := ([16777217, (-16777217), 4611686018427387904] : List Int)) (inner := [.int .i64 16777217, .int .i64 (-16777217), .int .i64 4611686018427387904]) (ok := fun _ => True) (okp := fun _ => True) ?hr ?hp (fun _ hk => hk) trivial (Below.refl _ _) (Nat.le_refl _) (by simp) ?_; (case hd => rfl); (case hg => rfl); (case hr => first | (go_simp; done) | (go_simp; rfl)); (case hp => exact (Reps.one (show Kd.M (Kd.int .i64) _ _ _ 16777217 [.int .i64 16777217] from rfl) (Reps.one (show Kd.M (Kd.int .i64) _ _ _ (-16777217) [.int .i64 (-16777217)] from rfl) (Reps.one (show Kd.M (Kd.int .i64) _ _ _ 4611686018427387904 [.int .i64 4611686018427387904] from rfl) (Reps.none _ _))))); intro v538 o2 x0 hb hg_ hnew_; clear hg_ hnew_; (first | rw [← Ny537.out] at x0 | (simp only [Int.reduceToNat] at x0; rw [← Ny537.out] at x0)); have D := zK (Kd.R_elder' (zkR q) (Kd.R_base x0) hb); have E := zK (Kd.R_lower (Kd.R_new' x0 (Kd.R_lt (zkR q))) (keep_size (w := w) (g := g) (row := none) (ww15b))); have I := zK (IsS94.below (ww15a) hb); have J := zK (KeepBut.trans (ww15b) (KeepBut.of_below hb g none) (.inl rfl)); have f0 := zK (zp (ww15c) hb); revert D E I J f0; clear q HI0 HK HB; intro q X HI0 HK HB; clear hb x0; obtain ⟨S0, T0, U1⟩ := Kd.R_slice X.out; subst U1) | ((with_reducible refine gc 77 rfl ?_); refine zF 34 Try.func77 #[.pointer (some ⟨g, 0, none⟩), .slice S0 C0.length T0] rfl zL ?_; (with_reducible refine (spec_l1PickInt.calls g u a0 b0 _ _ C0 D0 N0 O0 w0 _ ?side1 ?side2 ?side3 ?side4 ?side5 X1.out).mono ?_); (case side1 => exact ww15a); (case side2 => exact ww15c); (case side3 => exact zC (Kd.R_reads' X.out).2.2); (case side4 => exact (Kd.R_reads' X.out).2.1); (case side5 => exact far_slice (IsS94.own_ne HI0.out X.out (by decide))); rintro e L1 ⟨rfl, hi, hb, hk⟩; refine ⟨_, rfl, ?_⟩; have D := zK (Kd.R_mono (Kd.R_keep (IsS94.apart (show IsS94 w0 _ g u a0 b0 from ww15a) (zkR q) (by decide)) hk (fun _ h => h.2)) (fun _ h => h.1)); have E := zK (Kd.R_mono (Kd.R_keep (IsS94.apart (show IsS94 w0 _ g u a0 b0 from ww15a) (zkR X) (by decide)) hk (fun _ h => h.2)) (fun _ h => h.1)); have I := zK (KeepBut.trans (ww15b) hk (.inl rfl)); have J := zK (hb); have f0 := zK (hi); revert D E I J f0; clear q X HK HB HI0; intro q X HK HB HI0; have o1 : 0 ≤ (0 : Int) := (by omega); have p1 : (0 : Int) < ((y.length : Int) : Int) := z3; have qi27 : (0 < y.length) = True := eq_true (by omega); obtain ⟨go27, i2, q1, s1, gl27, cl27, HG27⟩ := Kd.R_form q.out (by omega); (first | cases q1 | (injection q1 with ea_ en_ ec_; (first | subst ea_ | (injection ea_ with ea_; subst ea_)); subst ec_; clear en_)); have GB27 := zK s1; have GG27 := zK HG27; clear s1 gl27 HG27; obtain ⟨M0, hf27_0⟩ := Kd.R_celln 0 q.out (0 : Int) o1 p1; (try rw [show ((0 : Int)).toNat = 0 from rfl] at M0); (try simp only [Nat.reduceMul, Nat.zero_mul, Nat.zero_add, Nat.reduceAdd] at M0); (try rw [show ((0 : Int)).toNat = 0 from rfl] at hf27_0); (try simp only [Nat.reduceMul, Nat.zero_mul, Nat.zero_add, Nat.reduceAdd] at hf27_0); replace o1 := eq_true o1; replace p1 := eq_true p1; have n_ := zK (Kd.R_mono (ok' := (fun k_ => some k_ ≠ (.slice S0 C0.length T0 : Value).ownBlock)) q.out (fun k_ hk => hk.2)); clear q; have q := n_; clear n_; obtain ⟨b1, hz34_⟩ := Kd.R_celln 0 q.out (0 : Int) (by omega) (z3); (try simp only [Int.reduceToNat, Int.toNat_zero, Int.toNat_ofNat, Nat.reduceMul, Nat.zero_mul, Nat.zero_add] at b1 hz34_); (try rw [show ((0 : Int)).toNat = 0 from rfl] at b1); (try rw [show ((0 : Int)).toNat = 0 from rfl] at hz34_); have HP34 := Kd.R_putg q.out (0 : Int) D0) | ((with_reducible refine gate_store (t := 3) (p := 35) rfl ?_); refine store_event (t := 3) (p := 35) (v := ?vo_w35) (w1 := (L1.setCell ⟨go27, (0 : Int).toNat, none⟩ (.int .i64 D0))) ?hg ?ho ?hn ?hr ?_; (case ho => rfl); (case hg => rfl); (case hn => rfl); (case hr => first | (go_simp; done) | (go_simp; rfl)); intro t1 hw; have hg : L1.grownBy t1 (some go27) := (by rw [hw]; exact HP34.2); have hp_ : Kd.R (Kd.int .i64) 3 t1 w.heap.size (fun k_ => some k_ ≠ (.slice S0 C0.length T0 : Value).ownBlock) (.slice (some ⟨go27, 0, none⟩) y.length R0) n1 := (by rw [hw, Ny543.out]; exact HP34.1); clear HP34; have D := zK (hp_); have E := zK (IsS94.grown (ww15a) hg (IsS94.own_ne HI0.out q.out (by decide))); have I := zK (Kd.R_after (v := (.slice (some ⟨go27, 0, none⟩) y.length R0)) (v1 := (.slice (some ⟨go27, 0, none⟩) y.length R0)) (ok := (fun _ => True)) (zkR X) hg (.inl rfl)); have J := zK ((by rw [hw]; exact zs (HB.out) (Nat.le_trans HL.out GB27.out) : Below w0.heap.size w0 t1)); have f0 := zK (KeepBut.trans (ww15b) (KeepBut.of_grown hg g) (Kd.R_base2 q.out)); revert D E I J f0; clear q HI0 X HB HK; intro q HI0 X HB HK; clear hg hw hp_))
   go_ret
   exact ⟨_, zE, Kd.R_mono (zlR q.out) (fun _ hk => trivial), ww15a, ww15c, ww15b⟩
 rw [if_pos c5] at H
 have R1 := z1 c5
 clear c5
 replace H := z6 H
 obtain ⟨⟨g0, i0, j0⟩, M1, H⟩ := H
 replace H : ((spec_l1Once.f u i0 j0 20).bind fun p0 => (if p0.1 = true then ((spec_l1PickInt.f u p0.2.1 p0.2.2 (([16777216, (-16777216), 0] : List Int))).bind fun T => (if y.length < 17592186044416 then (spec_l15DrawGrad.l0 k1 (wrap64 (O - 1)) (y ++ [T.1]) u T.2.1 T.2.2) else (none))) else (if y.length < 17592186044416 then (spec_l15DrawGrad.l0 k1 (wrap64 (O - 1)) (y ++ [wrap64 (g0 - 100000)]) u p0.2.1 p0.2.2) else (none)))) = some (r1, r2, r3) := H
 have A6 := zK M1
 clear M1
 replace H := z6 H
 obtain ⟨⟨x1, c0, d0⟩, N1, H⟩ := H
 replace H : (if x1 = true then ((spec_l1PickInt.f u c0 d0 (([16777216, (-16777216), 0] : List Int))).bind fun T => (if y.length < 17592186044416 then (spec_l15DrawGrad.l0 k1 (wrap64 (O - 1)) (y ++ [T.1]) u T.2.1 T.2.2) else (none))) else (if y.length < 17592186044416 then (spec_l15DrawGrad.l0 k1 (wrap64 (O - 1)) (y ++ [wrap64 (g0 - 100000)]) u c0 d0) else (none))) = some (r1, r2, r3) := H
 have A7 := zK N1
 clear N1
 by_cases c8 : x1 = true
 rotate_left
 · replace c8 := Bool.eq_false_iff.mpr c8
   subst c8
   rw [if_neg (show ¬ (false = true) by decide)] at H
   by_cases c1 : y.length < 17592186044416
   rotate_left
   · rw [if_neg c1] at H
     exact absurd H (by simp)
   rw [if_pos c1] at H
   have LMc18 := zK c1
   clear c1
   obtain ⟨y1, q0⟩ : ∃ y_ : List Int, y_ = (y ++ [wrap64 (g0 - 100000)]) := ⟨_, rfl⟩
   replace H : (spec_l15DrawGrad.l0 k1 (wrap64 (O - 1)) y1 u c0 d0) = some (r1, r2, r3) := by first | (rw [q0]; with_reducible exact H) | (have L := (Option.bind_some _ _).symm.trans H; rw [q0]; with_reducible exact L) | (have L := (Option.bind_some _ _).symm.trans H; with_reducible exact L) | with_reducible exact H | (rw [q0]; exact H) | exact H
   have Ny531 := zK q0
   clear q0
   have H' := zK H
   clear H
   go_wp2_with (first | ((with_reducible refine gc 60 rfl ?_); refine zF 13 Try.func60 #[.pointer (some ⟨g, 0, none⟩), .int .i64 200000] rfl zL ?_; (with_reducible refine (spec_l1Below.calls g u z A 200000 g0 i0 j0 w0 _ ?side1 ?side2 A6.out).mono ?_); (case side1 => exact ww15a); (case side2 => exact ww15c); rintro e q2 ⟨rfl, hi, hb, hk⟩; refine ⟨_, rfl, ?_⟩; have D := zK (Kd.R_mono (Kd.R_keep (IsS94.apart (show IsS94 w0 _ g u z A from ww15a) (zkR q) (by decide)) hk (fun _ h => h.2)) (fun _ h => h.1)); have E := zK (KeepBut.trans (ww15b) hk (.inl rfl)); have I := zK (hb); have J := zK (hi); revert D E I J; clear q HK HB HI0; intro q HK HB HI0) | ((with_reducible refine gc 76 rfl ?_); refine zF 16 Try.func76 #[.pointer (some ⟨g, 0, none⟩), .int .i64 20] rfl zL ?_; (with_reducible refine (spec_l1Once.calls g u i0 j0 20 false c0 d0 w0 _ ?side1 ?side2 A7.out).mono ?_); (case side1 => exact ww15a); (case side2 => exact ww15c); rintro e s2 ⟨rfl, hi, hb, hk⟩; refine ⟨_, rfl, ?_⟩; have D := zK (Kd.R_mono (Kd.R_keep (IsS94.apart (show IsS94 w0 _ g u i0 j0 from ww15a) (zkR q) (by decide)) hk (fun _ h => h.2)) (fun _ h => h.1)); have E := zK (KeepBut.trans (ww15b) hk (.inl rfl)); have I := zK (hb); have J := zK (hi); revert D E I J; clear q HK HB HI0; intro q HK HB HI0) | ((with_reducible refine gate_builtin (b := .append) (xs := #[.tmp 20, .tmp 22]) rfl ?_); (try (refine gate_guard (by rfl) ?_; dsimp only)); at_builtin; refine Kd.R_append (Kd.int .i64) w.heap.size rfl (.tmp 20) (.tmp 22) 26 3 (.int .i64 0) 8 rfl Try.underlying26 info3 rfl (by decide) (by omega) u5 y (wrap64 (g0 - 100000)) [.int .i64 (wrap64 (g0 - 100000))] (fun _ => True) (fun _ => False) rfl rfl ?aP (fun _ hk => hk.elim) ?aF ?aO (Below.refl _ _) ?aS ?aL ?_; (case aP => exact rfl); (case aF => exact (fun _ _ => trivial)); (case aO => exact (zkR q)); (case aS => exact (keep_size (w := w) (g := g) (row := none) (ww15b))); (case aL => have := LMc18.out; omega); intro v532 t2 ho hb hg hat; rw [← Ny531.out] at ho; have D := zK (IsS94.grown (ww15a) hg (IsS94.own_ne HI0.out q.out (by decide))); have E := zK (below_weaken (ww15c) HL.out hb); have I := zK (KeepBut.trans (ww15b) (KeepBut.of_grown hg g) (Kd.R_base2 q.out)); have J := zK (ho); revert D E I J; clear HI0 HB HK q; intro HI0 HB HK I1; clear ho hb hg hat))
   go_roundg k1
   case measure => have := U0.out; omega
   case rel => exact ⟨(wrap64 (O - 1)), (y1), (c0), (d0), zR, H', ⟨by have := U0.out; omega⟩, ⟨zkR I1⟩, ⟨ww15a⟩, ⟨ww15b⟩, ⟨ww15c⟩⟩
 subst c8
 rw [if_pos rfl] at H
 obtain ⟨G0, s0⟩ : ∃ y_ : List Int, y_ = (([16777216, (-16777216), 0] : List Int)) := ⟨_, rfl⟩
 replace H : ((spec_l1PickInt.f u c0 d0 G0).bind fun T => (if y.length < 17592186044416 then (spec_l15DrawGrad.l0 k1 (wrap64 (O - 1)) (y ++ [T.1]) u T.2.1 T.2.2) else (none))) = some (r1, r2, r3) := by first | (rw [s0]; with_reducible exact H) | (have L := (Option.bind_some _ _).symm.trans H; rw [s0]; with_reducible exact L) | (have L := (Option.bind_some _ _).symm.trans H; with_reducible exact L) | with_reducible exact H | (rw [s0]; exact H) | exact H
 have Ny522 := zK s0
 clear s0
 replace H := z6 H
 obtain ⟨⟨E0, I0, J0⟩, O1, H⟩ := H
 replace H : (if y.length < 17592186044416 then (spec_l15DrawGrad.l0 k1 (wrap64 (O - 1)) (y ++ [E0]) u I0 J0) else (none)) = some (r1, r2, r3) := H
 have A9 := zK O1
 clear O1
 by_cases d1 : y.length < 17592186044416
 rotate_left
 · rw [if_neg d1] at H
   exact absurd H (by simp)
 rw [if_pos d1] at H
 have LMc10 := zK d1
 clear d1
 obtain ⟨A1, t0⟩ : ∃ y_ : List Int, y_ = (y ++ [E0]) := ⟨_, rfl⟩
 replace H : (spec_l15DrawGrad.l0 k1 (wrap64 (O - 1)) A1 u I0 J0) = some (r1, r2, r3) := by first | (rw [t0]; with_reducible exact H) | (have L := (Option.bind_some _ _).symm.trans H; rw [t0]; with_reducible exact L) | (have L := (Option.bind_some _ _).symm.trans H; with_reducible exact L) | with_reducible exact H | (rw [t0]; exact H) | exact H
 have Ny528 := zK t0
 clear t0
 have H' := zK H
 clear H
 go_wp2_with (first | ((with_reducible refine gc 60 rfl ?_); refine zF 13 Try.func60 #[.pointer (some ⟨g, 0, none⟩), .int .i64 200000] rfl zL ?_; (with_reducible refine (spec_l1Below.calls g u z A 200000 g0 i0 j0 w0 _ ?side1 ?side2 A6.out).mono ?_); (case side1 => exact ww15a); (case side2 => exact ww15c); rintro e x2 ⟨rfl, hi, hb, hk⟩; refine ⟨_, rfl, ?_⟩; have D := zK (Kd.R_mono (Kd.R_keep (IsS94.apart (show IsS94 w0 _ g u z A from ww15a) (zkR q) (by decide)) hk (fun _ h => h.2)) (fun _ h => h.1)); have E := zK (KeepBut.trans (ww15b) hk (.inl rfl)); have I := zK (hb); have J := zK (hi); revert D E I J; clear q HK HB HI0; intro q HK HB HI0) | ((with_reducible refine gc 76 rfl ?_); refine zF 16 Try.func76 #[.pointer (some ⟨g, 0, none⟩), .int .i64 20] rfl zL ?_; (with_reducible refine (spec_l1Once.calls g u i0 j0 20 true c0 d0 w0 _ ?side1 ?side2 A7.out).mono ?_); (case side1 => exact ww15a); (case side2 => exact ww15c); rintro e y2 ⟨rfl, hi, hb, hk⟩; refine ⟨_, rfl, ?_⟩; have D := zK (Kd.R_mono (Kd.R_keep (IsS94.apart (show IsS94 w0 _ g u i0 j0 from ww15a) (zkR q) (by decide)) hk (fun _ h => h.2)) (fun _ h => h.1)); have E := zK (KeepBut.trans (ww15b) hk (.inl rfl)); have I := zK (hb); have J := zK (hi); revert D E I J; clear q HK HB HI0; intro q HK HB HI0) | ((with_reducible refine gd 18 rfl ?_); (try (refine gate_guard (by rfl) ?_; dsimp only)); refine Kd.R_lit (Kd.int .i64) _ 3 ?hg (N := 18) ?hd (xs := ([16777216, (-16777216), 0] : List Int)) (inner := [.int .i64 16777216, .int .i64 (-16777216), .int .i64 0]) (ok := fun _ => True) (okp := fun _ => True) ?hr ?hp (fun _ hk => hk) trivial (Below.refl _ _) (Nat.le_refl _) (by simp) ?_; (case hd => rfl); (case hg => rfl); (case hr => first | (go_simp; done) | (go_simp; rfl)); (case hp => exact (Reps.one (show Kd.M (Kd.int .i64) _ _ _ 16777216 [.int .i64 16777216] from rfl) (Reps.one (show Kd.M (Kd.int .i64) _ _ _ (-16777216) [.int .i64 (-16777216)] from rfl) (Reps.one (show Kd.M (Kd.int .i64) _ _ _ 0 [.int .i64 0] from rfl) (Reps.none _ _))))); intro v523 A2 y0 hb hg_ hnew_; clear hg_ hnew_; (first | rw [← Ny522.out] at y0 | (simp only [Int.reduceToNat] at y0; rw [← Ny522.out] at y0)); have D := zK (Kd.R_elder' (zkR q) (Kd.R_base y0) hb); have E := zK (Kd.R_lower (Kd.R_new' y0 (Kd.R_lt (zkR q))) (keep_size (w := w) (g := g) (row := none) (ww15b))); have I := zK (IsS94.below (ww15a) hb); have J := zK (KeepBut.trans (ww15b) (KeepBut.of_below hb g none) (.inl rfl)); have f0 := zK (zp (ww15c) hb); revert D E I J f0; clear q HI0 HK HB; intro q U HI0 HK HB; clear hb y0; obtain ⟨B1, C1, V1⟩ := Kd.R_slice U.out; subst V1) | ((with_reducible refine gc 77 rfl ?_); refine zF 19 Try.func77 #[.pointer (some ⟨g, 0, none⟩), .slice B1 G0.length C1] rfl zL ?_; (with_reducible refine (spec_l1PickInt.calls g u c0 d0 _ _ G0 E0 I0 J0 w0 _ ?side1 ?side2 ?side3 ?side4 ?side5 A9.out).mono ?_); (case side1 => exact ww15a); (case side2 => exact ww15c); (case side3 => exact zC (Kd.R_reads' U.out).2.2); (case side4 => exact (Kd.R_reads' U.out).2.1); (case side5 => exact far_slice (IsS94.own_ne HI0.out U.out (by decide))); rintro e B2 ⟨rfl, hi, hb, hk⟩; refine ⟨_, rfl, ?_⟩; have D := zK (Kd.R_mono (Kd.R_keep (IsS94.apart (show IsS94 w0 _ g u c0 d0 from ww15a) (zkR q) (by decide)) hk (fun _ h => h.2)) (fun _ h => h.1)); have E := zK (Kd.R_mono (Kd.R_keep (IsS94.apart (show IsS94 w0 _ g u c0 d0 from ww15a) (zkR U) (by decide)) hk (fun _ h => h.2)) (fun _ h => h.1)); have I := zK (KeepBut.trans (ww15b) hk (.inl rfl)); have J := zK (hb); have f0 := zK (hi); revert D E I J f0; clear q U HK HB HI0; intro q U HK HB HI0) | ((with_reducible refine gate_builtin (b := .append) (xs := #[.tmp 20, .tmp 22]) rfl ?_); (try (refine gate_guard (by rfl) ?_; dsimp only)); at_builtin; refine Kd.R_append (Kd.int .i64) w.heap.size rfl (.tmp 20) (.tmp 22) 26 3 (.int .i64 0) 8 rfl Try.underlying26 info3 rfl (by decide) (by omega) u5 y E0 [.int .i64 E0] (fun k_ => some k_ ≠ (.slice B1 G0.length C1 : Value).ownBlock) (fun _ => False) rfl rfl ?aP (fun _ hk => hk.elim) ?aF ?aO (Below.refl _ _) ?aS ?aL ?_; (case aP => exact rfl); (case aF => exact (fun k_ hk => Kd.fresh' (Kd.R_lt (zkR U)) k_ hk)); (case aO => exact (Kd.R_mono (zlR q.out) (fun _ hk => hk.2))); (case aS => exact (keep_size (w := w) (g := g) (row := none) (ww15b))); (case aL => have := LMc10.out; omega); intro v529 C2 ho hb hg hat; rw [← Ny528.out] at ho; have D := zK (IsS94.grown (ww15a) hg (IsS94.own_ne HI0.out q.out (by decide))); have E := zK (Kd.R_after (ok := (fun _ => True)) (zkR U) hg hat); have I := zK (below_weaken (ww15c) HL.out hb); have J := zK (KeepBut.trans (ww15b) (KeepBut.of_grown hg g) (Kd.R_base2 q.out)); have f0 := zK (ho); revert D E I J f0; clear HI0 U HB HK q; intro HI0 U HB HK J1; clear ho hb hg hat))
 go_roundg k1
 case measure => have := U0.out; omega
 case rel => exact ⟨(wrap64 (O - 1)), (A1), (I0), (J0), zR, H', ⟨by have := U0.out; omega⟩, ⟨Kd.R_mono (zlR J1.out) (fun _ hk => trivial)⟩, ⟨ww15a⟩, ⟨ww15b⟩, ⟨ww15c⟩⟩
def sets (g : Nat) : World → Nat → List Value → World
 | W, _, [] => W
 | W, i, v :: vs => sets g (W.setCell ⟨g, i, none⟩ v) (i + 1) vs
def putsA : Array Value → Nat → List Value → Array Value
 | cs, _, [] => cs
 | cs, i, v :: vs => putsA (cs.setIfInBounds i v) (i + 1) vs
theorem sets_R {α : Type} {k : Kd α} {t base g : Nat} {ok : Nat → Prop} {v : Value} {l : List α} (us : List Value) : ∀ {W : World} {i : Nat}, Kd.R k t W base (fun j => ok j ∧ j ≠ g) v l → Kd.R k t (sets g W i us) base (fun j => ok j ∧ j ≠ g) v l := by
  induction us with
  | nil => intro W i h; exact h
  | cons u us ih => intro W i h; exact ih (Kd.R_far (p := ⟨g, i, none⟩) h (fun _ hk => hk.2) u)
theorem sets_Q {α : Type} {k : Kd α} {t base g : Nat} {ok : Nat → Prop} {v : Value} {l : List α} (us : List Value) : ∀ {W : World} {i : Nat}, Kd.Q k t W base (fun j => ok j ∧ j ≠ g) v l → Kd.Q k t (sets g W i us) base (fun j => ok j ∧ j ≠ g) v l := by
  induction us with
  | nil => intro W i h; exact h
  | cons u us ih => intro W i h; exact ih (Kd.Q_far (p := ⟨g, i, none⟩) h (fun _ hk => hk.2) u)
theorem sets_B {g l : Nat} {o : Obj} (us : List Value) (hne : l ≠ g) : ∀ {W : World} {i : Nat}, W.heap[l]? = some o → (sets g W i us).heap[l]? = some o := by
  induction us with
  | nil => intro W i h; exact h
  | cons u us ih => intro W i h; exact ih ((Below.heap_setCell W ⟨g, i, none⟩ u l hne).trans h)
theorem sets_H {w : World} {g : Nat} (us : List Value) (hg : w.heap.size ≤ g) : ∀ {W : World} {i : Nat}, Below w.heap.size w W → Below w.heap.size w (sets g W i us) := by
  induction us with
  | nil => intro W i h; exact h
  | cons u us ih => intro W i h; exact ih (zs h hg)
theorem sets_I {w : World} {g g9 : Nat} {f0 : List Int} {f1 f2 : Int} (us : List Value) (hne : g9 ≠ g) : ∀ {W : World} {i : Nat}, IsS94 w W g9 f0 f1 f2 → IsS94 w (sets g W i us) g9 f0 f1 f2 := by
  induction us with
  | nil => intro W i h; exact h
  | cons u us ih => intro W i h; exact ih (IsS94.far (p := ⟨g, i, none⟩) h hne u)
theorem sets_S {g T : Nat} (us : List Value) : ∀ {W : World} {i : Nat} {cs : Array Value}, W.heap[g]? = some (.cells cs T (0, 0)) → (sets g W i us).heap[g]? = some (.cells (putsA cs i us) T (0, 0)) := by
  induction us with
  | nil => intro W i cs h; exact h
  | cons u us ih => intro W i cs h; exact ih (blk_put h i u rfl)
theorem tR {α : Type} {k : Kd α} {t base g i T : Nat} {ok : Nat → Prop} {v : Value} {W w' : World} {l : List α} {us : List Value} {cs : Array Value} (hW : sets g W i us = w') (h : Kd.R k t W base ok v l) (hb : W.heap[g]? = some (.cells cs T (0, 0))) (ht : ∀ q, q ∈ t :: k.E → q ≠ T) : Aside0 (Kd.R k t w' base ok v l) := by
  subst hW; exact ⟨Kd.R_mono (sets_R us (Kd.R_types h hb ht)) (fun _ h => h.1)⟩
theorem tQ {α : Type} {k : Kd α} {t base g i T : Nat} {ok : Nat → Prop} {v : Value} {W w' : World} {l : List α} {us : List Value} {cs : Array Value} (hW : sets g W i us = w') (h : Kd.Q k t W base ok v l) (hb : W.heap[g]? = some (.cells cs T (0, 0))) (ht : ∀ q, q ∈ t :: k.E → q ≠ T) : Aside0 (Kd.Q k t w' base ok v l) := by
  subst hW; exact ⟨Kd.Q_mono (sets_Q us (Kd.Q_types h hb ht)) (fun _ h => h.1)⟩
theorem tB {g i l : Nat} {W w' : World} {us : List Value} {o : Obj} (hW : sets g W i us = w') (h : W.heap[l]? = some o) (hne : l ≠ g) : Aside0 (w'.heap[l]? = some o) := by
  subst hW; exact ⟨sets_B us hne h⟩
theorem tH {g i : Nat} {w W w' : World} {us : List Value} (hW : sets g W i us = w') (h : Below w.heap.size w W) (hg : w.heap.size ≤ g) : Aside0 (Below w.heap.size w w') := by
  subst hW; exact ⟨sets_H us hg h⟩
theorem tI {g i g9 : Nat} {w W w' : World} {us : List Value} {f0 : List Int} {f1 f2 : Int} (hW : sets g W i us = w') (h : IsS94 w W g9 f0 f1 f2) (hne : g9 ≠ g) : Aside0 (IsS94 w w' g9 f0 f1 f2) := by
  subst hW; exact ⟨sets_I us hne h⟩
theorem tS {g i T : Nat} {W w' : World} {us : List Value} {cs cs' : Array Value} (hW : sets g W i us = w') (h : W.heap[g]? = some (.cells cs T (0, 0))) (hc : putsA cs i us = cs') : Aside0 (w'.heap[g]? = some (.cells cs' T (0, 0))) := by
  subst hW; subst hc; exact ⟨sets_S us h⟩
def spec_DrawStepOpt.f (k : Nat) (D : List Int) : Option (Int × Int × Int × Int × Int × Int × Int × Int × Int × Int × Int × List Int × List Int × List Int × Int × Int × Int × List Int) := (spec_l1New.f k D).bind fun y => ((spec_l15DrawRule.f k y.1 y.2.1 y.2.2).bind fun q => ((spec_l15DrawOpt.f k y.1 q.2.2.2.2.2.2.2.2.2.2.2.1 q.2.2.2.2.2.2.2.2.2.2.2.2).bind fun u => ((spec_l1Below.f y.1 u.2.2.2.2.2.2.1 u.2.2.2.2.2.2.2 40).bind fun z => ((spec_l15DrawGrad.f k y.1 z.2.1 z.2.2 (wrap64 ((u.1.length : Int) + (wrap64 (Int.tdiv z.1 39))))).bind fun A => (some (q.1, q.2.1, q.2.2.1, q.2.2.2.1, q.2.2.2.2.1, q.2.2.2.2.2.1, q.2.2.2.2.2.2.1, q.2.2.2.2.2.2.2.1, q.2.2.2.2.2.2.2.2.1, q.2.2.2.2.2.2.2.2.2.1, q.2.2.2.2.2.2.2.2.2.2.1, u.1, u.2.1, u.2.2.1, u.2.2.2.1, u.2.2.2.2.1, u.2.2.2.2.2.1, A.1))))))
def spec_DrawStepOpt.T4 : Bool × List (List Nat × List Nat) := (true, [([], []), ([], []), ([], []), ([], []), ([3], [3]), ([4], [4]), ([], []), ([6], [6]), ([7], [7]), ([5, 8], [5, 8]), ([2, 9, 7], [2, 9]), ([0, 10, 0], [0]), ([1, 11, 0, 1, 11], [1]), ([10, 12, 0, 1, 2, 3, 4, 5, 6, 7, 8, 9, 10, 11, 12], [10])])
def spec_DrawStepOpt.B4 : List Nat := [0, 0, 0, 0, 8, 24, 0, 64, 192, 504, 1020, 2045, 4095, 8191]
theorem spec_DrawStepOpt.tab4 : rtab .any (opsOf Try.f25 4) = spec_DrawStepOpt.T4 := by kernel_rfl
theorem spec_DrawStepOpt.bits4 : waitsOk spec_DrawStepOpt.T4.2 spec_DrawStepOpt.B4 = true := by kernel_rfl
theorem spec_DrawStepOpt.calls (k) (A0) (c0) (l0 : List Int) (r1) (r2) (r3) (r4) (r5) (r6) (r7) (r8) (r9) (r10) (r11) (r12 : List Int) (r13 : List Int) (r14 : List Int) (r15) (r16) (r17) (r18 : List Int) (w) (g2 : Kd.C (Kd.int .u8) w A0 l0.length l0) (i2 : l0.length ≤ c0) (h : spec_DrawStepOpt.f k l0 = some (r1, r2, r3, r4, r5, r6, r7, r8, r9, r10, r11, r12, r13, r14, r15, r16, r17, r18)) :
 Calls Try.prog 25 #[.slice A0 l0.length c0] w fun e w' => ∃ v11_ v12_ v13_ v17_ : Value, e = .returned (.tuple #[.agg #[.int .i64 r1, .int .i64 r2, .int .i64 r3, .int .i64 r4, .int .i64 r5, .int .i64 r6, .int .i64 r7, .int .i64 r8, .int .i64 r9, .int .i64 r10, .int .i64 r11], .agg #[v11_, v12_, v13_, .int .i64 r15, .int .i64 r16, .int .i64 r17], v17_]) ∧ Kd.R (Kd.int .i64) 3 w' w.heap.size (fun k_ => some k_ ≠ (v12_ : Value).ownBlock ∧ some k_ ≠ (v13_ : Value).ownBlock ∧ some k_ ≠ (v17_ : Value).ownBlock) v11_ r12 ∧ Kd.Q (Kd.int .i64) 3 w' w.heap.size (fun k_ => some k_ ≠ (v11_ : Value).ownBlock ∧ some k_ ≠ (v13_ : Value).ownBlock ∧ some k_ ≠ (v17_ : Value).ownBlock) v12_ r13 ∧ Kd.R (Kd.int .i64) 3 w' w.heap.size (fun k_ => some k_ ≠ (v11_ : Value).ownBlock ∧ some k_ ≠ (v12_ : Value).ownBlock ∧ some k_ ≠ (v17_ : Value).ownBlock) v13_ r14 ∧ Kd.R (Kd.int .i64) 3 w' w.heap.size (fun k_ => some k_ ≠ (v11_ : Value).ownBlock ∧ some k_ ≠ (v12_ : Value).ownBlock ∧ some k_ ≠ (v13_ : Value).ownBlock) v17_ r18 ∧ Below w.heap.size w w' := by
 have O4 := Try.underlying35
 have R4 := Try.underlying30
 have T3 := zK g2
 have U3 := zK i2
 clear g2 i2
 have HB := zK (Below.refl w.heap.size w)
 have H : ((spec_l1New.f k l0).bind fun F1 => ((spec_l15DrawRule.f k F1.1 F1.2.1 F1.2.2).bind fun b0 => ((spec_l15DrawOpt.f k F1.1 b0.2.2.2.2.2.2.2.2.2.2.2.1 b0.2.2.2.2.2.2.2.2.2.2.2.2).bind fun a0 => ((spec_l1Below.f F1.1 a0.2.2.2.2.2.2.1 a0.2.2.2.2.2.2.2 40).bind fun B0 => ((spec_l15DrawGrad.f k F1.1 B0.2.1 B0.2.2 (wrap64 ((a0.1.length : Int) + (wrap64 (Int.tdiv B0.1 39))))).bind fun e1 => (some (b0.1, b0.2.1, b0.2.2.1, b0.2.2.2.1, b0.2.2.2.2.1, b0.2.2.2.2.2.1, b0.2.2.2.2.2.2.1, b0.2.2.2.2.2.2.2.1, b0.2.2.2.2.2.2.2.2.1, b0.2.2.2.2.2.2.2.2.2.1, b0.2.2.2.2.2.2.2.2.2.2.1, a0.1, a0.2.1, a0.2.2.1, a0.2.2.2.1, a0.2.2.2.2.1, a0.2.2.2.2.2.1, e1.1))))))) = some (r1, r2, r3, r4, r5, r6, r7, r8, r9, r10, r11, r12, r13, r14, r15, r16, r17, r18) := h
 clear h
 replace H := z6 H
 obtain ⟨⟨i0, X1, a2⟩, j2, H⟩ := H
 replace H : ((spec_l15DrawRule.f k i0 X1 a2).bind fun b0 => ((spec_l15DrawOpt.f k i0 b0.2.2.2.2.2.2.2.2.2.2.2.1 b0.2.2.2.2.2.2.2.2.2.2.2.2).bind fun a0 => ((spec_l1Below.f i0 a0.2.2.2.2.2.2.1 a0.2.2.2.2.2.2.2 40).bind fun B0 => ((spec_l15DrawGrad.f k i0 B0.2.1 B0.2.2 (wrap64 ((a0.1.length : Int) + (wrap64 (Int.tdiv B0.1 39))))).bind fun e1 => (some (b0.1, b0.2.1, b0.2.2.1, b0.2.2.2.1, b0.2.2.2.2.1, b0.2.2.2.2.2.1, b0.2.2.2.2.2.2.1, b0.2.2.2.2.2.2.2.1, b0.2.2.2.2.2.2.2.2.1, b0.2.2.2.2.2.2.2.2.2.1, b0.2.2.2.2.2.2.2.2.2.2.1, a0.1, a0.2.1, a0.2.2.1, a0.2.2.2.1, a0.2.2.2.2.1, a0.2.2.2.2.2.1, e1.1)))))) = some (r1, r2, r3, r4, r5, r6, r7, r8, r9, r10, r11, r12, r13, r14, r15, r16, r17, r18) := H
 have A2 := zK j2
 clear j2
 replace H := z6 H
 obtain ⟨⟨f1, g1, i1, j1, l1, m1, n1, o1, p1, q1, t1, M1, N1⟩, l2, H⟩ := H
 replace H : ((spec_l15DrawOpt.f k i0 M1 N1).bind fun a0 => ((spec_l1Below.f i0 a0.2.2.2.2.2.2.1 a0.2.2.2.2.2.2.2 40).bind fun B0 => ((spec_l15DrawGrad.f k i0 B0.2.1 B0.2.2 (wrap64 ((a0.1.length : Int) + (wrap64 (Int.tdiv B0.1 39))))).bind fun e1 => (some (f1, g1, i1, j1, l1, m1, n1, o1, p1, q1, t1, a0.1, a0.2.1, a0.2.2.1, a0.2.2.2.1, a0.2.2.2.2.1, a0.2.2.2.2.2.1, e1.1))))) = some (r1, r2, r3, r4, r5, r6, r7, r8, r9, r10, r11, r12, r13, r14, r15, r16, r17, r18) := H
 have A3 := zK l2
 clear l2
 replace H := z6 H
 obtain ⟨⟨g0, q0, t0, C0, D0, E0, B1, C1⟩, m2, H⟩ := H
 replace H : ((spec_l1Below.f i0 B1 C1 40).bind fun B0 => ((spec_l15DrawGrad.f k i0 B0.2.1 B0.2.2 (wrap64 ((g0.length : Int) + (wrap64 (Int.tdiv B0.1 39))))).bind fun e1 => (some (f1, g1, i1, j1, l1, m1, n1, o1, p1, q1, t1, g0, q0, t0, C0, D0, E0, e1.1)))) = some (r1, r2, r3, r4, r5, r6, r7, r8, r9, r10, r11, r12, r13, r14, r15, r16, r17, r18) := H
 have A4 := zK m2
 clear m2
 replace H := z6 H
 obtain ⟨⟨R1, J1, L1⟩, n2, H⟩ := H
 replace H : ((spec_l15DrawGrad.f k i0 J1 L1 (wrap64 ((g0.length : Int) + (wrap64 (Int.tdiv R1 39))))).bind fun e1 => (some (f1, g1, i1, j1, l1, m1, n1, o1, p1, q1, t1, g0, q0, t0, C0, D0, E0, e1.1))) = some (r1, r2, r3, r4, r5, r6, r7, r8, r9, r10, r11, r12, r13, r14, r15, r16, r17, r18) := H
 have A5 := zK n2
 clear n2
 replace H := z6 H
 obtain ⟨⟨e2, F2, G2⟩, o2, H⟩ := H
 replace H : (some (f1, g1, i1, j1, l1, m1, n1, o1, p1, q1, t1, g0, q0, t0, C0, D0, E0, e2)) = some (r1, r2, r3, r4, r5, r6, r7, r8, r9, r10, r11, r12, r13, r14, r15, r16, r17, r18) := H
 have A6 := zK o2
 clear o2
 simp only [Option.some.injEq, Prod.mk.injEq] at H
 obtain ⟨rfl, rfl, rfl, rfl, rfl, rfl, rfl, rfl, rfl, rfl, rfl, rfl, rfl, rfl, rfl, rfl, rfl, rfl⟩ := H
 go_enter Try.func25, Try.ntmps25
 try go_wp2_with (first | ((with_reducible refine gd 2 rfl ?_); refine zJ 2 #[.int .i64 0, .int .i64 0, .int .i64 0, .int .i64 0, .int .i64 0, .int .i64 0, .int .i64 0, .int .i64 0, .int .i64 0, .int .i64 0, .int .i64 0] 35 ?_; intro u hg w7 hbox hb; have R0 := z8 hb; have S0 := zK (hbox); have T0 := z9 hg; have U0 := z9 hg; revert R0 S0 T0 U0; clear HB; intro HB I n4 x0; clear hb hbox hg) | ((with_reducible refine gd 3 rfl ?_); refine zJ 3 #[.slice none 0 0, .slice none 0 0, .slice none 0 0, .int .i64 0, .int .i64 0, .int .i64 0] 30 ?_; intro A hg w8 hbox hb; have R0 := z7 I hb; have S0 := z8 hb; have T0 := zK (hbox); have U0 := z9 hg; have X0 := z9 hg; have a1 := zHH hg I; have b1 := zGG hg I; revert R0 S0 T0 U0 X0 a1 b1; clear I HB; intro I HB L o4 y0 O T; clear hb hbox hg) | ((with_reducible refine gc 56 rfl ?_); refine zF 9 Try.func56 #[.slice A0 l0.length c0] rfl zL ?_; (with_reducible refine (spec_l1New.calls k _ _ l0 i0 X1 a2 w _ ?side1 ?side2 ?side3 A2.out).mono ?_); (case side1 => repeat (first | (with_reducible first | exact HB.out | apply zb | apply zw | apply ze | refine zs ?_ x0.out | refine zs ?_ y0.out) | exact HB.out)); (case side2 => exact T3.out); (case side3 => exact U3.out); rintro e w9 ⟨g549, rfl, hi, hb, hb2⟩; refine ⟨_, rfl, ?_⟩; have R0 := zK (zg (zM I) hb2); have S0 := zK (zg (zM L) hb2); have T0 := zK (hb); have U0 := zK (hi); have X0 := zK (IsS94.ne_blk hi (zg (zM I) hb2) (by decide)); have a1 := zK (Ne.symm (IsS94.ne_blk hi (zg (zM I) hb2) (by decide))); have b1 := zK (IsS94.ne_blk hi (zg (zM L) hb2) (by decide)); have d1 := zK (Ne.symm (IsS94.ne_blk hi (zg (zM L) hb2) (by decide))); revert R0 S0 T0 U0 X0 a1 b1 d1; clear I L HB; intro I L HB HI549 U x1 X y1) | ((with_reducible refine gc 57 rfl ?_); refine zF 11 Try.func57 #[.pointer (some ⟨g549, 0, none⟩)] rfl zL ?_; (with_reducible refine (spec_l15DrawRule.calls k g549 i0 X1 a2 f1 g1 i1 j1 l1 m1 n1 o1 p1 q1 t1 M1 N1 w _ ?side1 ?side2 A3.out).mono ?_); (case side1 => exact ww15g); (case side2 => exact ww15h); rintro e y5 ⟨rfl, hi, hb, hk⟩; refine ⟨_, rfl, ?_⟩; have R0 := zK (KeepBut.blk hk (g' := u) (o := .cells #[.int .i64 0, .int .i64 0, .int .i64 0, .int .i64 0, .int .i64 0, .int .i64 0, .int .i64 0, .int .i64 0, .int .i64 0, .int .i64 0, .int .i64 0] 35 (0, 0)) (zM I) x1.out (by simp)); have S0 := zK (KeepBut.blk hk (g' := A) (o := .cells #[.slice none 0 0, .slice none 0 0, .slice none 0 0, .int .i64 0, .int .i64 0, .int .i64 0] 30 (0, 0)) (zM L) y1.out (by simp)); have T0 := zK (hb); have U0 := zK (hi); revert R0 S0 T0 U0; clear I L HB HI549; intro I L HB HI549) | ((with_reducible refine gd 6 rfl ?_); refine zJ 6 #[.int .i64 0, .int .i64 0, .int .i64 0, .int .i64 0, .int .i64 0, .int .i64 0, .int .i64 0, .int .i64 0, .int .i64 0, .int .i64 0, .int .i64 0] 35 ?_; intro j0 hg B5 hbox hb; have R0 := z7 I hb; have S0 := z7 L hb; have T0 := zK (IsS94.below (ww15g) hb); have U0 := zK (zp (ww15h) hb); have X0 := zK (hbox); have a1 := zK ((by rw [hg]; exact (zz (ww15h)) : w.heap.size ≤ j0)); have b1 := zK ((by rw [hg]; exact (zz (ww15h)) : w.heap.size ≤ j0)); have d1 := zHH hg I; have D1 := zGG hg I; have T1 := zHH hg L; have b2 := zGG hg L; have c2 := zK ((by rw [hg]; exact Nat.ne_of_lt (IsS94.lt (show IsS94 w _ g549 i0 M1 N1 from ww15g)) : g549 ≠ j0)); have d2 := zK ((by rw [hg]; exact Nat.ne_of_gt (IsS94.lt (show IsS94 w _ g549 i0 M1 N1 from ww15g)) : j0 ≠ g549)); revert R0 S0 T0 U0 X0 a1 b1 d1 D1 T1 b2 c2 d2; clear I L HI549 HB; intro I L HI549 HB J p4 V0 e0 q N0 z d0 A1; clear hb hbox hg; have q4 := q.out; have t4 := e0.out; have x4 := z.out; have y4 := N0.out; have B4 := A1.out; have C4 := d0.out; obtain ⟨a3, b3, c3, d3, e3, f3, g3, i3, j3, l3, I2, m3, n3, o3, p3, q3, t3, x3, y3, B3, C3, J2⟩ := zc11 J) | ((with_reducible refine gc 58 rfl ?_); refine zF 13 Try.func58 #[.pointer (some ⟨g549, 0, none⟩)] rfl zL ?_; (with_reducible refine (spec_l15DrawOpt.calls k g549 i0 M1 N1 g0 q0 t0 C0 D0 E0 B1 C1 w _ ?side1 ?side2 A4.out).mono ?_); (case side1 => exact ww15i); (case side2 => exact ww15e); rintro e C5 ⟨v565, v568, v571, rfl, O1, V3, X3, hi, hb, hk⟩; refine ⟨_, rfl, ?_⟩; have R0 := zK (KeepBut.blk hk (g' := u) (o := .cells #[.int .i64 0, .int .i64 0, .int .i64 0, .int .i64 0, .int .i64 0, .int .i64 0, .int .i64 0, .int .i64 0, .int .i64 0, .int .i64 0, .int .i64 0] 35 (0, 0)) (zV I) x1.out (by simp)); have S0 := zK (KeepBut.blk hk (g' := A) (o := .cells #[.slice none 0 0, .slice none 0 0, .slice none 0 0, .int .i64 0, .int .i64 0, .int .i64 0] 30 (0, 0)) (zV L) y1.out (by simp)); have T0 := zK (KeepBut.blk hk (g' := j0) (o := .cells #[.int .i64 f1, .int .i64 g1, .int .i64 i1, .int .i64 j1, .int .i64 l1, .int .i64 m1, .int .i64 n1, .int .i64 o1, .int .i64 p1, .int .i64 q1, .int .i64 t1] 35 (0, 0)) (zW J) A1.out (by simp)); have U0 := zK (Kd.R_lower O1 (zz (ww15e))); have X0 := zK (Kd.Q_lower V3 (zz (ww15e))); have a1 := zK (Kd.R_lower X3 (zz (ww15e))); have b1 := zK (hb); have d1 := zK (hi); revert R0 S0 T0 U0 X0 a1 b1 d1; clear I L J HB HI549; intro I L J m0 n0 o0 HB HI549) | ((with_reducible refine gd 7 rfl ?_); refine zJ 7 #[.slice none 0 0, .slice none 0 0, .slice none 0 0, .int .i64 0, .int .i64 0, .int .i64 0] 30 ?_; intro E hg G1 hbox hb; have R0 := zK (Kd.R_below (zkR m0) hb); have S0 := zK (Kd.Q_below (zkQ n0) hb); have T0 := zK (Kd.R_below (zkR o0) hb); have U0 := z7 I hb; have X0 := z7 L hb; have a1 := zK (IsS94.below (ww15i) hb); have b1 := z7 J hb; have d1 := zK (zp (ww15e) hb); have D1 := zK (hbox); have T1 := zK ((by rw [hg]; exact (zz (ww15e)) : w.heap.size ≤ E)); have b2 := zK ((by rw [hg]; exact (zz (ww15e)) : w.heap.size ≤ E)); have c2 := zHH hg I; have d2 := zGG hg I; have L2 := zHH hg L; have M2 := zGG hg L; have N2 := zHH hg J; have O2 := zGG hg J; have R2 := zK ((by rw [hg]; exact Nat.ne_of_lt (IsS94.lt (show IsS94 w _ g549 i0 B1 C1 from ww15i)) : g549 ≠ E)); have T2 := zK ((by rw [hg]; exact Nat.ne_of_gt (IsS94.lt (show IsS94 w _ g549 i0 B1 C1 from ww15i)) : E ≠ g549)); revert R0 S0 T0 U0 X0 a1 b1 d1 D1 T1 b2 c2 d2 L2 M2 N2 O2 R2 T2; clear m0 n0 o0 I L HI549 J HB; intro m0 n0 o0 I L HI549 J HB M D4 I1 f0 y O0 D U1 V1 p0 E1; clear hb hbox hg; obtain ⟨F0, G0, U2⟩ := Kd.R_slice m0.out; subst U2; have E4 := y.out; have F4 := f0.out; have G4 := D.out; have I4 := O0.out; have J4 := V1.out; have L4 := U1.out; have M4 := E1.out; have N4 := p0.out; obtain ⟨D3, E3, F3, G3, I3, J3, L3, M3, N3, O3, R3, S3⟩ := zc6 M; obtain ⟨I0, J0, V2, _⟩ := Kd.Q_slice n0.out; subst V2; obtain ⟨L0, M0, X2⟩ := Kd.R_slice o0.out; subst X2))
 have R0 : Aside0 (Kd.R (Kd.int .i64) 3 ((((((G1.setCell ⟨E, 0, none⟩ (.slice F0 g0.length G0)).setCell ⟨E, 1, none⟩ (.slice I0 q0.length J0)).setCell ⟨E, 2, none⟩ (.slice L0 t0.length M0)).setCell ⟨E, 3, none⟩ (.int .i64 C0)).setCell ⟨E, 4, none⟩ (.int .i64 D0)).setCell ⟨E, 5, none⟩ (.int .i64 E0)) w.heap.size (fun k_ => some k_ ≠ (.slice I0 q0.length J0 : Value).ownBlock ∧ some k_ ≠ (.slice L0 t0.length M0 : Value).ownBlock) (.slice F0 g0.length G0) g0) := ⟨Kd.R_mono (zlR (Kd.R_types m0.out M.out (by decide))) (fun _ hk => ⟨hk.1.1, hk.1.2⟩)⟩
 have S0 : Aside0 (Kd.Q (Kd.int .i64) 3 ((((((G1.setCell ⟨E, 0, none⟩ (.slice F0 g0.length G0)).setCell ⟨E, 1, none⟩ (.slice I0 q0.length J0)).setCell ⟨E, 2, none⟩ (.slice L0 t0.length M0)).setCell ⟨E, 3, none⟩ (.int .i64 C0)).setCell ⟨E, 4, none⟩ (.int .i64 D0)).setCell ⟨E, 5, none⟩ (.int .i64 E0)) w.heap.size (fun k_ => some k_ ≠ (.slice F0 g0.length G0 : Value).ownBlock ∧ some k_ ≠ (.slice L0 t0.length M0 : Value).ownBlock) (.slice I0 q0.length J0) q0) := ⟨Kd.Q_mono (zlQ (Kd.Q_types n0.out M.out (by decide))) (fun _ hk => ⟨hk.1.1, hk.1.2⟩)⟩
 have T0 : Aside0 (Kd.R (Kd.int .i64) 3 ((((((G1.setCell ⟨E, 0, none⟩ (.slice F0 g0.length G0)).setCell ⟨E, 1, none⟩ (.slice I0 q0.length J0)).setCell ⟨E, 2, none⟩ (.slice L0 t0.length M0)).setCell ⟨E, 3, none⟩ (.int .i64 C0)).setCell ⟨E, 4, none⟩ (.int .i64 D0)).setCell ⟨E, 5, none⟩ (.int .i64 E0)) w.heap.size (fun k_ => some k_ ≠ (.slice F0 g0.length G0 : Value).ownBlock ∧ some k_ ≠ (.slice I0 q0.length J0 : Value).ownBlock) (.slice L0 t0.length M0) t0) := ⟨Kd.R_mono (zlR (Kd.R_types o0.out M.out (by decide))) (fun _ hk => ⟨hk.1.1, hk.1.2⟩)⟩
 have U0 : Aside0 (((((((G1.setCell ⟨E, 0, none⟩ (.slice F0 g0.length G0)).setCell ⟨E, 1, none⟩ (.slice I0 q0.length J0)).setCell ⟨E, 2, none⟩ (.slice L0 t0.length M0)).setCell ⟨E, 3, none⟩ (.int .i64 C0)).setCell ⟨E, 4, none⟩ (.int .i64 D0)).setCell ⟨E, 5, none⟩ (.int .i64 E0)).heap[u]? = some (.cells #[.int .i64 0, .int .i64 0, .int .i64 0, .int .i64 0, .int .i64 0, .int .i64 0, .int .i64 0, .int .i64 0, .int .i64 0, .int .i64 0, .int .i64 0] 35 (0, 0))) := ⟨zV I⟩
 have X0 : Aside0 (((((((G1.setCell ⟨E, 0, none⟩ (.slice F0 g0.length G0)).setCell ⟨E, 1, none⟩ (.slice I0 q0.length J0)).setCell ⟨E, 2, none⟩ (.slice L0 t0.length M0)).setCell ⟨E, 3, none⟩ (.int .i64 C0)).setCell ⟨E, 4, none⟩ (.int .i64 D0)).setCell ⟨E, 5, none⟩ (.int .i64 E0)).heap[A]? = some (.cells #[.slice none 0 0, .slice none 0 0, .slice none 0 0, .int .i64 0, .int .i64 0, .int .i64 0] 30 (0, 0))) := ⟨zV L⟩
 have a1 : Aside0 (((((((G1.setCell ⟨E, 0, none⟩ (.slice F0 g0.length G0)).setCell ⟨E, 1, none⟩ (.slice I0 q0.length J0)).setCell ⟨E, 2, none⟩ (.slice L0 t0.length M0)).setCell ⟨E, 3, none⟩ (.int .i64 C0)).setCell ⟨E, 4, none⟩ (.int .i64 D0)).setCell ⟨E, 5, none⟩ (.int .i64 E0)).heap[j0]? = some (.cells #[.int .i64 f1, .int .i64 g1, .int .i64 i1, .int .i64 j1, .int .i64 l1, .int .i64 m1, .int .i64 n1, .int .i64 o1, .int .i64 p1, .int .i64 q1, .int .i64 t1] 35 (0, 0))) := ⟨zV J⟩
 have b1 : Aside0 (((((((G1.setCell ⟨E, 0, none⟩ (.slice F0 g0.length G0)).setCell ⟨E, 1, none⟩ (.slice I0 q0.length J0)).setCell ⟨E, 2, none⟩ (.slice L0 t0.length M0)).setCell ⟨E, 3, none⟩ (.int .i64 C0)).setCell ⟨E, 4, none⟩ (.int .i64 D0)).setCell ⟨E, 5, none⟩ (.int .i64 E0)).heap[E]? = some (.cells #[.slice F0 g0.length G0, .slice I0 q0.length J0, .slice L0 t0.length M0, .int .i64 C0, .int .i64 D0, .int .i64 E0] 30 (0, 0))) := ⟨zW M⟩
 have d1 : Aside0 (IsS94 w ((((((G1.setCell ⟨E, 0, none⟩ (.slice F0 g0.length G0)).setCell ⟨E, 1, none⟩ (.slice I0 q0.length J0)).setCell ⟨E, 2, none⟩ (.slice L0 t0.length M0)).setCell ⟨E, 3, none⟩ (.int .i64 C0)).setCell ⟨E, 4, none⟩ (.int .i64 D0)).setCell ⟨E, 5, none⟩ (.int .i64 E0)) g549 i0 B1 C1) := ⟨ww15d⟩
 have D1 : Aside0 (Below w.heap.size w ((((((G1.setCell ⟨E, 0, none⟩ (.slice F0 g0.length G0)).setCell ⟨E, 1, none⟩ (.slice I0 q0.length J0)).setCell ⟨E, 2, none⟩ (.slice L0 t0.length M0)).setCell ⟨E, 3, none⟩ (.int .i64 C0)).setCell ⟨E, 4, none⟩ (.int .i64 D0)).setCell ⟨E, 5, none⟩ (.int .i64 E0))) := ⟨ww15f⟩
 (try clear m0)
 (try clear n0)
 (try clear o0)
 (try clear I)
 (try clear L)
 (try clear J)
 (try clear M)
 (try clear HI549)
 (try clear HB)
 generalize ((((((G1.setCell ⟨E, 0, none⟩ (.slice F0 g0.length G0)).setCell ⟨E, 1, none⟩ (.slice I0 q0.length J0)).setCell ⟨E, 2, none⟩ (.slice L0 t0.length M0)).setCell ⟨E, 3, none⟩ (.int .i64 C0)).setCell ⟨E, 4, none⟩ (.int .i64 D0)).setCell ⟨E, 5, none⟩ (.int .i64 E0)) = a4 at R0 S0 T0 U0 X0 a1 b1 d1 D1 ⊢
 revert R0 S0 T0 U0 X0 a1 b1 d1 D1
 intro m0 n0 o0 I L J M HI549 HB
 have R0 := zK (Kd.R_drew m0.out)
 have S0 := zK (Kd.Q_drew n0.out)
 have T0 := zK (Kd.R_drew o0.out)
 have U0 := zK (zd I.out)
 have X0 := zK (zd L.out)
 have a1 := zK (zd J.out)
 have b1 := zK (zd M.out)
 have d1 := zK (IsS94.drew HI549.out)
 have D1 := zK (ze HB.out)
 revert R0 S0 T0 U0 X0 a1 b1 d1 D1
 clear m0 n0 o0 I L J M HI549 HB
 intro m0 n0 o0 I L J M HI549 HB
 refine start_ (n := 14) (S := fun w' => w'.cell? ⟨j0, 0, none⟩ = some (.int .i64 f1) ∧ w'.cell? ⟨j0, 1, none⟩ = some (.int .i64 g1) ∧ w'.cell? ⟨j0, 2, none⟩ = some (.int .i64 i1) ∧ w'.cell? ⟨j0, 3, none⟩ = some (.int .i64 j1) ∧ w'.cell? ⟨j0, 4, none⟩ = some (.int .i64 l1) ∧ w'.cell? ⟨j0, 5, none⟩ = some (.int .i64 m1) ∧ w'.cell? ⟨j0, 6, none⟩ = some (.int .i64 n1) ∧ w'.cell? ⟨j0, 7, none⟩ = some (.int .i64 o1) ∧ w'.cell? ⟨j0, 8, none⟩ = some (.int .i64 p1) ∧ w'.cell? ⟨j0, 9, none⟩ = some (.int .i64 q1) ∧ w'.cell? ⟨j0, 10, none⟩ = some (.int .i64 t1) ∧ w'.cell? ⟨E, 0, none⟩ = some (.slice F0 g0.length G0) ∧ w'.cell? ⟨E, 1, none⟩ = some (.slice I0 q0.length J0) ∧ w'.cell? ⟨E, 2, none⟩ = some (.slice L0 t0.length M0) ∧ w'.cell? ⟨E, 3, none⟩ = some (.int .i64 C0) ∧ w'.cell? ⟨E, 4, none⟩ = some (.int .i64 D0) ∧ w'.cell? ⟨E, 5, none⟩ = some (.int .i64 E0)) (ds := []) (bl 14 0) (by kernel_rfl) rfl (by kernel_rfl) ⟨zy J 0, zy J 1, zy J 2, zy J 3, zy J 4, zy J 5, zy J 6, zy J 7, zy J 8, zy J 9, zy J 10, zy M 0, zy M 1, zy M 2, zy M 3, zy M 4, zy M 5⟩ (fun hHeld => ?_); refine with_tabW spec_DrawStepOpt.tab4 spec_DrawStepOpt.bits4 (fun HT_ HW_ => ?_)
 generalize a4.drew = D5 at m0 n0 o0 I L J M HI549 HB hHeld ⊢
 refine zP 2 16 (bl 14 4) HT_ ?_
 refine zP 3 17 (bl 14 12) HT_ ?_
 refine zP 6 20 (bl 14 76) HT_ ?_
 refine zT 0 14 (bl 14 77) rfl rfl HT_ HW_ hHeld (by rintro w' ⟨s0, s1, s2, s3, s4, s5, s6, s7, s8, s9, p2, q2, t2, x2, y2, B2, C2⟩; go_simp; with_reducible rfl) ?_
 refine zT 1 15 (bl 14 79) rfl rfl HT_ HW_ hHeld (by rintro w' ⟨s0, s1, s2, s3, s4, s5, s6, s7, s8, s9, p2, q2, t2, x2, y2, B2, C2⟩; go_simp; with_reducible rfl) ?_
 refine zT 4 18 (bl 14 95) rfl rfl HT_ HW_ hHeld (by rintro w' ⟨s0, s1, s2, s3, s4, s5, s6, s7, s8, s9, p2, q2, t2, x2, y2, B2, C2⟩; go_simp; with_reducible rfl) ?_
 refine zP 5 19 (bl 14 127) HT_ ?_
 refine one_ (i := 7) (N := some 21) (bl 14 255) rfl rfl (one_of HT_.out (by kernel_rfl)) (by decide) (fun K hK => ?_)
 refine goes_ Try.func60 (by kernel_rfl) rfl #[.pointer (some ⟨g549, 0, none⟩), .int .i64 40] (by rfl) rfl rfl zL ?_
 with_reducible refine (spec_l1Below.calls g549 i0 B1 C1 40 R1 J1 L1 w _ ?side1 ?side2 A5.out).mono ?_
 (case side1 => exact ww15d)
 (case side2 => exact ww15f)
 rintro e E5 ⟨rfl, hi, hb, hk⟩
 refine ⟨_, rfl, ?_⟩
 have R0 := zK (KeepBut.blk hk (g' := u) (o := .cells #[.int .i64 0, .int .i64 0, .int .i64 0, .int .i64 0, .int .i64 0, .int .i64 0, .int .i64 0, .int .i64 0, .int .i64 0, .int .i64 0, .int .i64 0] 35 (0, 0)) (zM I) x1.out (by simp))
 have S0 := zK (KeepBut.blk hk (g' := A) (o := .cells #[.slice none 0 0, .slice none 0 0, .slice none 0 0, .int .i64 0, .int .i64 0, .int .i64 0] 30 (0, 0)) (zM L) y1.out (by simp))
 have T0 := zK (KeepBut.blk hk (g' := j0) (o := .cells #[.int .i64 f1, .int .i64 g1, .int .i64 i1, .int .i64 j1, .int .i64 l1, .int .i64 m1, .int .i64 n1, .int .i64 o1, .int .i64 p1, .int .i64 q1, .int .i64 t1] 35 (0, 0)) (zM J) A1.out (by simp))
 have U0 := zK (Kd.R_mono (Kd.R_keep (IsS94.apart (show IsS94 w _ g549 i0 B1 C1 from ww15d) (zkR m0) (by decide)) hk (fun _ h => h.2)) (fun _ h => h.1))
 have X0 := zK (Kd.Q_mono (Kd.Q_keep (IsS94.apartQ (show IsS94 w _ g549 i0 B1 C1 from ww15d) (zkQ n0) (by decide)) hk (fun _ h => h.2)) (fun _ h => h.1))
 have a1 := zK (Kd.R_mono (Kd.R_keep (IsS94.apart (show IsS94 w _ g549 i0 B1 C1 from ww15d) (zkR o0) (by decide)) hk (fun _ h => h.2)) (fun _ h => h.1))
 have b1 := zK (KeepBut.blk hk (g' := E) (o := .cells #[.slice F0 g0.length G0, .slice I0 q0.length J0, .slice L0 t0.length M0, .int .i64 C0, .int .i64 D0, .int .i64 E0] 30 (0, 0)) (zM M) E1.out (by simp))
 have d1 := zK (hb)
 have D1 := zK (hi)
 revert R0 S0 T0 U0 X0 a1 b1 d1 D1
 clear I L J m0 n0 o0 M HB HI549
 intro I L J m0 n0 o0 M HB HI549
 (try clear hb)
 (try clear hb2)
 (try clear hk)
 (try clear hi)
 refine hK.out _ _ ⟨zy J 0, zy J 1, zy J 2, zy J 3, zy J 4, zy J 5, zy J 6, zy J 7, zy J 8, zy J 9, zy J 10, zy M 0, zy M 1, zy M 2, zy M 3, zy M 4, zy M 5⟩ (fun hHeld => ?_)
 clear hK K
 refine zU 21 ?_
 refine zP 8 22 (bl 14 511) HT_ ?_
 refine zP 9 23 (bl 14 1023) HT_ ?_
 refine one_ (i := 10) (N := some 24) (bl 14 2047) rfl rfl (one_of HT_.out (by kernel_rfl)) (by decide) (fun K hK => ?_)
 refine goes_ Try.func59 (by kernel_rfl) rfl #[.pointer (some ⟨g549, 0, none⟩), .int .i64 (wrap64 ((g0.length : Int) + (wrap64 (Int.tdiv R1 39))))] (by rfl) rfl rfl zL ?_
 with_reducible refine (spec_l15DrawGrad.calls k g549 i0 J1 L1 (wrap64 ((g0.length : Int) + (wrap64 (Int.tdiv R1 39)))) e2 F2 G2 w _ ?side1 ?side2 A6.out).mono ?_
 (case side1 => exact ww15d)
 (case side2 => exact ww15f)
 rintro e c1 ⟨v583, rfl, O1, hi, hb, hk⟩
 refine ⟨_, rfl, ?_⟩
 have R0 := zK (KeepBut.blk hk (g' := u) (o := .cells #[.int .i64 0, .int .i64 0, .int .i64 0, .int .i64 0, .int .i64 0, .int .i64 0, .int .i64 0, .int .i64 0, .int .i64 0, .int .i64 0, .int .i64 0] 35 (0, 0)) (zM I) x1.out (by simp))
 have S0 := zK (KeepBut.blk hk (g' := A) (o := .cells #[.slice none 0 0, .slice none 0 0, .slice none 0 0, .int .i64 0, .int .i64 0, .int .i64 0] 30 (0, 0)) (zM L) y1.out (by simp))
 have T0 := zK (KeepBut.blk hk (g' := j0) (o := .cells #[.int .i64 f1, .int .i64 g1, .int .i64 i1, .int .i64 j1, .int .i64 l1, .int .i64 m1, .int .i64 n1, .int .i64 o1, .int .i64 p1, .int .i64 q1, .int .i64 t1] 35 (0, 0)) (zM J) A1.out (by simp))
 have U0 := zK (Kd.R_mono (Kd.R_told (Kd.R_oldK (IsS94.apart (show IsS94 w _ g549 i0 J1 L1 from ww15d) (zkR m0) (by decide)) hk) (Kd.R_base O1)) (fun _ h_ => h_.1))
 have X0 := zK (Kd.Q_mono (Kd.Q_told (Kd.Q_oldK (IsS94.apartQ (show IsS94 w _ g549 i0 J1 L1 from ww15d) (zkQ n0) (by decide)) hk) (Kd.R_base O1)) (fun _ h_ => h_.1))
 have a1 := zK (Kd.R_mono (Kd.R_told (Kd.R_oldK (IsS94.apart (show IsS94 w _ g549 i0 J1 L1 from ww15d) (zkR o0) (by decide)) hk) (Kd.R_base O1)) (fun _ h_ => h_.1))
 have b1 := zK (KeepBut.blk hk (g' := E) (o := .cells #[.slice F0 g0.length G0, .slice I0 q0.length J0, .slice L0 t0.length M0, .int .i64 C0, .int .i64 D0, .int .i64 E0] 30 (0, 0)) (zM M) E1.out (by simp))
 have d1 := zK (Kd.R_lower (Kd.R_new' (Kd.R_new' (Kd.R_new' O1 (Kd.R_lt (zkR m0))) (Kd.Q_lt (zkQ n0))) (Kd.R_lt (zkR o0))) (zz (ww15f)))
 have D1 := zK (hb)
 have T1 := zK (hi)
 revert R0 S0 T0 U0 X0 a1 b1 d1 D1 T1
 clear I L J m0 n0 o0 M HB HI549
 intro I L J m0 n0 o0 M f2 HB HI549
 (try clear hb)
 (try clear hb2)
 (try clear hk)
 (try clear hi)
 (try clear O1)
 refine hK.out _ _ ⟨zy J 0, zy J 1, zy J 2, zy J 3, zy J 4, zy J 5, zy J 6, zy J 7, zy J 8, zy J 9, zy J 10, zy M 0, zy M 1, zy M 2, zy M 3, zy M 4, zy M 5⟩ (fun hHeld => ?_)
 clear hK K
 refine zU 24 ?_
 refine one_ (i := 11) (N := none) (bl 14 4095) rfl rfl (one_of HT_.out (by kernel_rfl)) (by decide) (fun K hK => ?_)
 have a5 : c1.cell? ⟨u, 0, none⟩ = some (.int .i64 0) := zy I 0
 have hfs30 := zf I.out 0
 have hns30_1 := T.out
 have hns30_2 := q.out
 have hns30_3 := y.out
 have hms30_1 := O.out
 have hms30_2 := e0.out
 have hms30_3 := f0.out
 have b5 : c1.cell? ⟨u, 1, none⟩ = some (.int .i64 0) := zy I 1
 have hfs31 := zf I.out 1
 have hns31_1 := T.out
 have hns31_2 := q.out
 have hns31_3 := y.out
 have hms31_1 := O.out
 have hms31_2 := e0.out
 have hms31_3 := f0.out
 have c5 : c1.cell? ⟨u, 2, none⟩ = some (.int .i64 0) := zy I 2
 have hfs32 := zf I.out 2
 have hns32_1 := T.out
 have hns32_2 := q.out
 have hns32_3 := y.out
 have hms32_1 := O.out
 have hms32_2 := e0.out
 have hms32_3 := f0.out
 have d5 : c1.cell? ⟨u, 3, none⟩ = some (.int .i64 0) := zy I 3
 have hfs33 := zf I.out 3
 have hns33_1 := T.out
 have hns33_2 := q.out
 have hns33_3 := y.out
 have hms33_1 := O.out
 have hms33_2 := e0.out
 have hms33_3 := f0.out
 have e5 : c1.cell? ⟨u, 4, none⟩ = some (.int .i64 0) := zy I 4
 have hfs34 := zf I.out 4
 have hns34_1 := T.out
 have hns34_2 := q.out
 have hns34_3 := y.out
 have hms34_1 := O.out
 have hms34_2 := e0.out
 have hms34_3 := f0.out
 have f5 : c1.cell? ⟨u, 5, none⟩ = some (.int .i64 0) := zy I 5
 have hfs35 := zf I.out 5
 have hns35_1 := T.out
 have hns35_2 := q.out
 have hns35_3 := y.out
 have hms35_1 := O.out
 have hms35_2 := e0.out
 have hms35_3 := f0.out
 have g5 : c1.cell? ⟨u, 6, none⟩ = some (.int .i64 0) := zy I 6
 have hfs36 := zf I.out 6
 have hns36_1 := T.out
 have hns36_2 := q.out
 have hns36_3 := y.out
 have hms36_1 := O.out
 have hms36_2 := e0.out
 have hms36_3 := f0.out
 have i5 : c1.cell? ⟨u, 7, none⟩ = some (.int .i64 0) := zy I 7
 have hfs37 := zf I.out 7
 have hns37_1 := T.out
 have hns37_2 := q.out
 have hns37_3 := y.out
 have hms37_1 := O.out
 have hms37_2 := e0.out
 have hms37_3 := f0.out
 have j5 : c1.cell? ⟨u, 8, none⟩ = some (.int .i64 0) := zy I 8
 have hfs38 := zf I.out 8
 have hns38_1 := T.out
 have hns38_2 := q.out
 have hns38_3 := y.out
 have hms38_1 := O.out
 have hms38_2 := e0.out
 have hms38_3 := f0.out
 have l5 : c1.cell? ⟨u, 9, none⟩ = some (.int .i64 0) := zy I 9
 have hfs39 := zf I.out 9
 have hns39_1 := T.out
 have hns39_2 := q.out
 have hns39_3 := y.out
 have hms39_1 := O.out
 have hms39_2 := e0.out
 have hms39_3 := f0.out
 have m5 : c1.cell? ⟨u, 10, none⟩ = some (.int .i64 0) := zy I 10
 have hfs40 := zf I.out 10
 have hns40_1 := T.out
 have hns40_2 := q.out
 have hns40_3 := y.out
 have hms40_1 := O.out
 have hms40_2 := e0.out
 have hms40_3 := f0.out
 refine skip_ (w1 := ?_) (by rfl) rfl ?_ ?_
 rotate_left
 · go_simp
   rfl
 refine hK.out _ _ ⟨((cell_far (p := ⟨u, _, none⟩) q.out _).trans (((cell_far (p := ⟨u, _, none⟩) q.out _).trans (((cell_far (p := ⟨u, _, none⟩) q.out _).trans (((cell_far (p := ⟨u, _, none⟩) q.out _).trans (((cell_far (p := ⟨u, _, none⟩) q.out _).trans (((cell_far (p := ⟨u, _, none⟩) q.out _).trans (((cell_far (p := ⟨u, _, none⟩) q.out _).trans (((cell_far (p := ⟨u, _, none⟩) q.out _).trans (((cell_far (p := ⟨u, _, none⟩) q.out _).trans (((cell_far (p := ⟨u, _, none⟩) q.out _).trans (((cell_far (p := ⟨u, _, none⟩) q.out _).trans (hHeld.1)))))))))))))))))))))), ((cell_far (p := ⟨u, _, none⟩) q.out _).trans (((cell_far (p := ⟨u, _, none⟩) q.out _).trans (((cell_far (p := ⟨u, _, none⟩) q.out _).trans (((cell_far (p := ⟨u, _, none⟩) q.out _).trans (((cell_far (p := ⟨u, _, none⟩) q.out _).trans (((cell_far (p := ⟨u, _, none⟩) q.out _).trans (((cell_far (p := ⟨u, _, none⟩) q.out _).trans (((cell_far (p := ⟨u, _, none⟩) q.out _).trans (((cell_far (p := ⟨u, _, none⟩) q.out _).trans (((cell_far (p := ⟨u, _, none⟩) q.out _).trans (((cell_far (p := ⟨u, _, none⟩) q.out _).trans (hHeld.2.1)))))))))))))))))))))), ((cell_far (p := ⟨u, _, none⟩) q.out _).trans (((cell_far (p := ⟨u, _, none⟩) q.out _).trans (((cell_far (p := ⟨u, _, none⟩) q.out _).trans (((cell_far (p := ⟨u, _, none⟩) q.out _).trans (((cell_far (p := ⟨u, _, none⟩) q.out _).trans (((cell_far (p := ⟨u, _, none⟩) q.out _).trans (((cell_far (p := ⟨u, _, none⟩) q.out _).trans (((cell_far (p := ⟨u, _, none⟩) q.out _).trans (((cell_far (p := ⟨u, _, none⟩) q.out _).trans (((cell_far (p := ⟨u, _, none⟩) q.out _).trans (((cell_far (p := ⟨u, _, none⟩) q.out _).trans (hHeld.2.2.1)))))))))))))))))))))), ((cell_far (p := ⟨u, _, none⟩) q.out _).trans (((cell_far (p := ⟨u, _, none⟩) q.out _).trans (((cell_far (p := ⟨u, _, none⟩) q.out _).trans (((cell_far (p := ⟨u, _, none⟩) q.out _).trans (((cell_far (p := ⟨u, _, none⟩) q.out _).trans (((cell_far (p := ⟨u, _, none⟩) q.out _).trans (((cell_far (p := ⟨u, _, none⟩) q.out _).trans (((cell_far (p := ⟨u, _, none⟩) q.out _).trans (((cell_far (p := ⟨u, _, none⟩) q.out _).trans (((cell_far (p := ⟨u, _, none⟩) q.out _).trans (((cell_far (p := ⟨u, _, none⟩) q.out _).trans (hHeld.2.2.2.1)))))))))))))))))))))), ((cell_far (p := ⟨u, _, none⟩) q.out _).trans (((cell_far (p := ⟨u, _, none⟩) q.out _).trans (((cell_far (p := ⟨u, _, none⟩) q.out _).trans (((cell_far (p := ⟨u, _, none⟩) q.out _).trans (((cell_far (p := ⟨u, _, none⟩) q.out _).trans (((cell_far (p := ⟨u, _, none⟩) q.out _).trans (((cell_far (p := ⟨u, _, none⟩) q.out _).trans (((cell_far (p := ⟨u, _, none⟩) q.out _).trans (((cell_far (p := ⟨u, _, none⟩) q.out _).trans (((cell_far (p := ⟨u, _, none⟩) q.out _).trans (((cell_far (p := ⟨u, _, none⟩) q.out _).trans (hHeld.2.2.2.2.1)))))))))))))))))))))), ((cell_far (p := ⟨u, _, none⟩) q.out _).trans (((cell_far (p := ⟨u, _, none⟩) q.out _).trans (((cell_far (p := ⟨u, _, none⟩) q.out _).trans (((cell_far (p := ⟨u, _, none⟩) q.out _).trans (((cell_far (p := ⟨u, _, none⟩) q.out _).trans (((cell_far (p := ⟨u, _, none⟩) q.out _).trans (((cell_far (p := ⟨u, _, none⟩) q.out _).trans (((cell_far (p := ⟨u, _, none⟩) q.out _).trans (((cell_far (p := ⟨u, _, none⟩) q.out _).trans (((cell_far (p := ⟨u, _, none⟩) q.out _).trans (((cell_far (p := ⟨u, _, none⟩) q.out _).trans (hHeld.2.2.2.2.2.1)))))))))))))))))))))), ((cell_far (p := ⟨u, _, none⟩) q.out _).trans (((cell_far (p := ⟨u, _, none⟩) q.out _).trans (((cell_far (p := ⟨u, _, none⟩) q.out _).trans (((cell_far (p := ⟨u, _, none⟩) q.out _).trans (((cell_far (p := ⟨u, _, none⟩) q.out _).trans (((cell_far (p := ⟨u, _, none⟩) q.out _).trans (((cell_far (p := ⟨u, _, none⟩) q.out _).trans (((cell_far (p := ⟨u, _, none⟩) q.out _).trans (((cell_far (p := ⟨u, _, none⟩) q.out _).trans (((cell_far (p := ⟨u, _, none⟩) q.out _).trans (((cell_far (p := ⟨u, _, none⟩) q.out _).trans (hHeld.2.2.2.2.2.2.1)))))))))))))))))))))), ((cell_far (p := ⟨u, _, none⟩) q.out _).trans (((cell_far (p := ⟨u, _, none⟩) q.out _).trans (((cell_far (p := ⟨u, _, none⟩) q.out _).trans (((cell_far (p := ⟨u, _, none⟩) q.out _).trans (((cell_far (p := ⟨u, _, none⟩) q.out _).trans (((cell_far (p := ⟨u, _, none⟩) q.out _).trans (((cell_far (p := ⟨u, _, none⟩) q.out _).trans (((cell_far (p := ⟨u, _, none⟩) q.out _).trans (((cell_far (p := ⟨u, _, none⟩) q.out _).trans (((cell_far (p := ⟨u, _, none⟩) q.out _).trans (((cell_far (p := ⟨u, _, none⟩) q.out _).trans (hHeld.2.2.2.2.2.2.2.1)))))))))))))))))))))), ((cell_far (p := ⟨u, _, none⟩) q.out _).trans (((cell_far (p := ⟨u, _, none⟩) q.out _).trans (((cell_far (p := ⟨u, _, none⟩) q.out _).trans (((cell_far (p := ⟨u, _, none⟩) q.out _).trans (((cell_far (p := ⟨u, _, none⟩) q.out _).trans (((cell_far (p := ⟨u, _, none⟩) q.out _).trans (((cell_far (p := ⟨u, _, none⟩) q.out _).trans (((cell_far (p := ⟨u, _, none⟩) q.out _).trans (((cell_far (p := ⟨u, _, none⟩) q.out _).trans (((cell_far (p := ⟨u, _, none⟩) q.out _).trans (((cell_far (p := ⟨u, _, none⟩) q.out _).trans (hHeld.2.2.2.2.2.2.2.2.1)))))))))))))))))))))), ((cell_far (p := ⟨u, _, none⟩) q.out _).trans (((cell_far (p := ⟨u, _, none⟩) q.out _).trans (((cell_far (p := ⟨u, _, none⟩) q.out _).trans (((cell_far (p := ⟨u, _, none⟩) q.out _).trans (((cell_far (p := ⟨u, _, none⟩) q.out _).trans (((cell_far (p := ⟨u, _, none⟩) q.out _).trans (((cell_far (p := ⟨u, _, none⟩) q.out _).trans (((cell_far (p := ⟨u, _, none⟩) q.out _).trans (((cell_far (p := ⟨u, _, none⟩) q.out _).trans (((cell_far (p := ⟨u, _, none⟩) q.out _).trans (((cell_far (p := ⟨u, _, none⟩) q.out _).trans (hHeld.2.2.2.2.2.2.2.2.2.1)))))))))))))))))))))), ((cell_far (p := ⟨u, _, none⟩) q.out _).trans (((cell_far (p := ⟨u, _, none⟩) q.out _).trans (((cell_far (p := ⟨u, _, none⟩) q.out _).trans (((cell_far (p := ⟨u, _, none⟩) q.out _).trans (((cell_far (p := ⟨u, _, none⟩) q.out _).trans (((cell_far (p := ⟨u, _, none⟩) q.out _).trans (((cell_far (p := ⟨u, _, none⟩) q.out _).trans (((cell_far (p := ⟨u, _, none⟩) q.out _).trans (((cell_far (p := ⟨u, _, none⟩) q.out _).trans (((cell_far (p := ⟨u, _, none⟩) q.out _).trans (((cell_far (p := ⟨u, _, none⟩) q.out _).trans (hHeld.2.2.2.2.2.2.2.2.2.2.1)))))))))))))))))))))), ((cell_far (p := ⟨u, _, none⟩) y.out _).trans (((cell_far (p := ⟨u, _, none⟩) y.out _).trans (((cell_far (p := ⟨u, _, none⟩) y.out _).trans (((cell_far (p := ⟨u, _, none⟩) y.out _).trans (((cell_far (p := ⟨u, _, none⟩) y.out _).trans (((cell_far (p := ⟨u, _, none⟩) y.out _).trans (((cell_far (p := ⟨u, _, none⟩) y.out _).trans (((cell_far (p := ⟨u, _, none⟩) y.out _).trans (((cell_far (p := ⟨u, _, none⟩) y.out _).trans (((cell_far (p := ⟨u, _, none⟩) y.out _).trans (((cell_far (p := ⟨u, _, none⟩) y.out _).trans (hHeld.2.2.2.2.2.2.2.2.2.2.2.1)))))))))))))))))))))), ((cell_far (p := ⟨u, _, none⟩) y.out _).trans (((cell_far (p := ⟨u, _, none⟩) y.out _).trans (((cell_far (p := ⟨u, _, none⟩) y.out _).trans (((cell_far (p := ⟨u, _, none⟩) y.out _).trans (((cell_far (p := ⟨u, _, none⟩) y.out _).trans (((cell_far (p := ⟨u, _, none⟩) y.out _).trans (((cell_far (p := ⟨u, _, none⟩) y.out _).trans (((cell_far (p := ⟨u, _, none⟩) y.out _).trans (((cell_far (p := ⟨u, _, none⟩) y.out _).trans (((cell_far (p := ⟨u, _, none⟩) y.out _).trans (((cell_far (p := ⟨u, _, none⟩) y.out _).trans (hHeld.2.2.2.2.2.2.2.2.2.2.2.2.1)))))))))))))))))))))), ((cell_far (p := ⟨u, _, none⟩) y.out _).trans (((cell_far (p := ⟨u, _, none⟩) y.out _).trans (((cell_far (p := ⟨u, _, none⟩) y.out _).trans (((cell_far (p := ⟨u, _, none⟩) y.out _).trans (((cell_far (p := ⟨u, _, none⟩) y.out _).trans (((cell_far (p := ⟨u, _, none⟩) y.out _).trans (((cell_far (p := ⟨u, _, none⟩) y.out _).trans (((cell_far (p := ⟨u, _, none⟩) y.out _).trans (((cell_far (p := ⟨u, _, none⟩) y.out _).trans (((cell_far (p := ⟨u, _, none⟩) y.out _).trans (((cell_far (p := ⟨u, _, none⟩) y.out _).trans (hHeld.2.2.2.2.2.2.2.2.2.2.2.2.2.1)))))))))))))))))))))), ((cell_far (p := ⟨u, _, none⟩) y.out _).trans (((cell_far (p := ⟨u, _, none⟩) y.out _).trans (((cell_far (p := ⟨u, _, none⟩) y.out _).trans (((cell_far (p := ⟨u, _, none⟩) y.out _).trans (((cell_far (p := ⟨u, _, none⟩) y.out _).trans (((cell_far (p := ⟨u, _, none⟩) y.out _).trans (((cell_far (p := ⟨u, _, none⟩) y.out _).trans (((cell_far (p := ⟨u, _, none⟩) y.out _).trans (((cell_far (p := ⟨u, _, none⟩) y.out _).trans (((cell_far (p := ⟨u, _, none⟩) y.out _).trans (((cell_far (p := ⟨u, _, none⟩) y.out _).trans (hHeld.2.2.2.2.2.2.2.2.2.2.2.2.2.2.1)))))))))))))))))))))), ((cell_far (p := ⟨u, _, none⟩) y.out _).trans (((cell_far (p := ⟨u, _, none⟩) y.out _).trans (((cell_far (p := ⟨u, _, none⟩) y.out _).trans (((cell_far (p := ⟨u, _, none⟩) y.out _).trans (((cell_far (p := ⟨u, _, none⟩) y.out _).trans (((cell_far (p := ⟨u, _, none⟩) y.out _).trans (((cell_far (p := ⟨u, _, none⟩) y.out _).trans (((cell_far (p := ⟨u, _, none⟩) y.out _).trans (((cell_far (p := ⟨u, _, none⟩) y.out _).trans (((cell_far (p := ⟨u, _, none⟩) y.out _).trans (((cell_far (p := ⟨u, _, none⟩) y.out _).trans (hHeld.2.2.2.2.2.2.2.2.2.2.2.2.2.2.2.1)))))))))))))))))))))), ((cell_far (p := ⟨u, _, none⟩) y.out _).trans (((cell_far (p := ⟨u, _, none⟩) y.out _).trans (((cell_far (p := ⟨u, _, none⟩) y.out _).trans (((cell_far (p := ⟨u, _, none⟩) y.out _).trans (((cell_far (p := ⟨u, _, none⟩) y.out _).trans (((cell_far (p := ⟨u, _, none⟩) y.out _).trans (((cell_far (p := ⟨u, _, none⟩) y.out _).trans (((cell_far (p := ⟨u, _, none⟩) y.out _).trans (((cell_far (p := ⟨u, _, none⟩) y.out _).trans (((cell_far (p := ⟨u, _, none⟩) y.out _).trans (((cell_far (p := ⟨u, _, none⟩) y.out _).trans (hHeld.2.2.2.2.2.2.2.2.2.2.2.2.2.2.2.2))))))))))))))))))))))⟩ (fun hHeld => ?_)
 clear hK K
 generalize hW_ : (World.setCell (World.setCell (World.setCell (World.setCell (World.setCell (World.setCell (World.setCell (World.setCell (World.setCell (World.setCell (World.setCell c1 ⟨u, 0, none⟩ _) ⟨u, 1, none⟩ _) ⟨u, 2, none⟩ _) ⟨u, 3, none⟩ _) ⟨u, 4, none⟩ _) ⟨u, 5, none⟩ _) ⟨u, 6, none⟩ _) ⟨u, 7, none⟩ _) ⟨u, 8, none⟩ _) ⟨u, 9, none⟩ _) ⟨u, 10, none⟩ _) = wt0_ at hHeld ⊢
 replace hW_ : sets u c1 0 [.int .i64 f1, .int .i64 g1, .int .i64 i1, .int .i64 j1, .int .i64 l1, .int .i64 m1, .int .i64 n1, .int .i64 o1, .int .i64 p1, .int .i64 q1, .int .i64 t1] = wt0_ := hW_
 have m0 := tR hW_ m0.out I.out (by decide)
 have n0 := tQ hW_ n0.out I.out (by decide)
 have o0 := tR hW_ o0.out I.out (by decide)
 have f2 := tR hW_ f2.out I.out (by decide)
 have L := tB hW_ L.out (Aside0.out (by assumption))
 have J := tB hW_ J.out (Aside0.out (by assumption))
 have M := tB hW_ M.out (Aside0.out (by assumption))
 have HB := tH hW_ HB.out (Aside0.out (by assumption))
 have HI549 := tI hW_ HI549.out (Aside0.out (by assumption))
 have I : Aside0 (wt0_.heap[u]? = some (.cells #[.int .i64 f1, .int .i64 g1, .int .i64 i1, .int .i64 j1, .int .i64 l1, .int .i64 m1, .int .i64 n1, .int .i64 o1, .int .i64 p1, .int .i64 q1, .int .i64 t1] 35 (0, 0))) := tS hW_ I.out (by simp only [putsA, zq1, zq2, zq3])
 clear hW_
 refine one_ (i := 12) (N := none) (bl 14 8191) rfl rfl (one_of HT_.out (by kernel_rfl)) (by decide) (fun K hK => ?_)
 have n5 : wt0_.cell? ⟨A, 0, none⟩ = some (.slice none 0 0) := zy L 0
 have hfs41 := zf L.out 0
 have hns41_0 := O.out
 have hns41_2 := z.out
 have hns41_3 := D.out
 have hms41_0 := T.out
 have hms41_2 := N0.out
 have hms41_3 := O0.out
 have o5 : wt0_.cell? ⟨A, 1, none⟩ = some (.slice none 0 0) := zy L 1
 have hfs42 := zf L.out 1
 have hns42_0 := O.out
 have hns42_2 := z.out
 have hns42_3 := D.out
 have hms42_0 := T.out
 have hms42_2 := N0.out
 have hms42_3 := O0.out
 have p5 : wt0_.cell? ⟨A, 2, none⟩ = some (.slice none 0 0) := zy L 2
 have hfs43 := zf L.out 2
 have hns43_0 := O.out
 have hns43_2 := z.out
 have hns43_3 := D.out
 have hms43_0 := T.out
 have hms43_2 := N0.out
 have hms43_3 := O0.out
 have q5 : wt0_.cell? ⟨A, 3, none⟩ = some (.int .i64 0) := zy L 3
 have hfs44 := zf L.out 3
 have hns44_0 := O.out
 have hns44_2 := z.out
 have hns44_3 := D.out
 have hms44_0 := T.out
 have hms44_2 := N0.out
 have hms44_3 := O0.out
 have t5 : wt0_.cell? ⟨A, 4, none⟩ = some (.int .i64 0) := zy L 4
 have hfs45 := zf L.out 4
 have hns45_0 := O.out
 have hns45_2 := z.out
 have hns45_3 := D.out
 have hms45_0 := T.out
 have hms45_2 := N0.out
 have hms45_3 := O0.out
 have x5 : wt0_.cell? ⟨A, 5, none⟩ = some (.int .i64 0) := zy L 5
 have hfs46 := zf L.out 5
 have hns46_0 := O.out
 have hns46_2 := z.out
 have hns46_3 := D.out
 have hms46_0 := T.out
 have hms46_2 := N0.out
 have hms46_3 := O0.out
 refine skip_ (w1 := ?_) (by rfl) rfl ?_ ?_
 rotate_left
 · go_simp
   rfl
 refine hK.out _ _ ⟨((cell_far (p := ⟨A, _, none⟩) z.out _).trans (((cell_far (p := ⟨A, _, none⟩) z.out _).trans (((cell_far (p := ⟨A, _, none⟩) z.out _).trans (((cell_far (p := ⟨A, _, none⟩) z.out _).trans (((cell_far (p := ⟨A, _, none⟩) z.out _).trans (((cell_far (p := ⟨A, _, none⟩) z.out _).trans (hHeld.1)))))))))))), ((cell_far (p := ⟨A, _, none⟩) z.out _).trans (((cell_far (p := ⟨A, _, none⟩) z.out _).trans (((cell_far (p := ⟨A, _, none⟩) z.out _).trans (((cell_far (p := ⟨A, _, none⟩) z.out _).trans (((cell_far (p := ⟨A, _, none⟩) z.out _).trans (((cell_far (p := ⟨A, _, none⟩) z.out _).trans (hHeld.2.1)))))))))))), ((cell_far (p := ⟨A, _, none⟩) z.out _).trans (((cell_far (p := ⟨A, _, none⟩) z.out _).trans (((cell_far (p := ⟨A, _, none⟩) z.out _).trans (((cell_far (p := ⟨A, _, none⟩) z.out _).trans (((cell_far (p := ⟨A, _, none⟩) z.out _).trans (((cell_far (p := ⟨A, _, none⟩) z.out _).trans (hHeld.2.2.1)))))))))))), ((cell_far (p := ⟨A, _, none⟩) z.out _).trans (((cell_far (p := ⟨A, _, none⟩) z.out _).trans (((cell_far (p := ⟨A, _, none⟩) z.out _).trans (((cell_far (p := ⟨A, _, none⟩) z.out _).trans (((cell_far (p := ⟨A, _, none⟩) z.out _).trans (((cell_far (p := ⟨A, _, none⟩) z.out _).trans (hHeld.2.2.2.1)))))))))))), ((cell_far (p := ⟨A, _, none⟩) z.out _).trans (((cell_far (p := ⟨A, _, none⟩) z.out _).trans (((cell_far (p := ⟨A, _, none⟩) z.out _).trans (((cell_far (p := ⟨A, _, none⟩) z.out _).trans (((cell_far (p := ⟨A, _, none⟩) z.out _).trans (((cell_far (p := ⟨A, _, none⟩) z.out _).trans (hHeld.2.2.2.2.1)))))))))))), ((cell_far (p := ⟨A, _, none⟩) z.out _).trans (((cell_far (p := ⟨A, _, none⟩) z.out _).trans (((cell_far (p := ⟨A, _, none⟩) z.out _).trans (((cell_far (p := ⟨A, _, none⟩) z.out _).trans (((cell_far (p := ⟨A, _, none⟩) z.out _).trans (((cell_far (p := ⟨A, _, none⟩) z.out _).trans (hHeld.2.2.2.2.2.1)))))))))))), ((cell_far (p := ⟨A, _, none⟩) z.out _).trans (((cell_far (p := ⟨A, _, none⟩) z.out _).trans (((cell_far (p := ⟨A, _, none⟩) z.out _).trans (((cell_far (p := ⟨A, _, none⟩) z.out _).trans (((cell_far (p := ⟨A, _, none⟩) z.out _).trans (((cell_far (p := ⟨A, _, none⟩) z.out _).trans (hHeld.2.2.2.2.2.2.1)))))))))))), ((cell_far (p := ⟨A, _, none⟩) z.out _).trans (((cell_far (p := ⟨A, _, none⟩) z.out _).trans (((cell_far (p := ⟨A, _, none⟩) z.out _).trans (((cell_far (p := ⟨A, _, none⟩) z.out _).trans (((cell_far (p := ⟨A, _, none⟩) z.out _).trans (((cell_far (p := ⟨A, _, none⟩) z.out _).trans (hHeld.2.2.2.2.2.2.2.1)))))))))))), ((cell_far (p := ⟨A, _, none⟩) z.out _).trans (((cell_far (p := ⟨A, _, none⟩) z.out _).trans (((cell_far (p := ⟨A, _, none⟩) z.out _).trans (((cell_far (p := ⟨A, _, none⟩) z.out _).trans (((cell_far (p := ⟨A, _, none⟩) z.out _).trans (((cell_far (p := ⟨A, _, none⟩) z.out _).trans (hHeld.2.2.2.2.2.2.2.2.1)))))))))))), ((cell_far (p := ⟨A, _, none⟩) z.out _).trans (((cell_far (p := ⟨A, _, none⟩) z.out _).trans (((cell_far (p := ⟨A, _, none⟩) z.out _).trans (((cell_far (p := ⟨A, _, none⟩) z.out _).trans (((cell_far (p := ⟨A, _, none⟩) z.out _).trans (((cell_far (p := ⟨A, _, none⟩) z.out _).trans (hHeld.2.2.2.2.2.2.2.2.2.1)))))))))))), ((cell_far (p := ⟨A, _, none⟩) z.out _).trans (((cell_far (p := ⟨A, _, none⟩) z.out _).trans (((cell_far (p := ⟨A, _, none⟩) z.out _).trans (((cell_far (p := ⟨A, _, none⟩) z.out _).trans (((cell_far (p := ⟨A, _, none⟩) z.out _).trans (((cell_far (p := ⟨A, _, none⟩) z.out _).trans (hHeld.2.2.2.2.2.2.2.2.2.2.1)))))))))))), ((cell_far (p := ⟨A, _, none⟩) D.out _).trans (((cell_far (p := ⟨A, _, none⟩) D.out _).trans (((cell_far (p := ⟨A, _, none⟩) D.out _).trans (((cell_far (p := ⟨A, _, none⟩) D.out _).trans (((cell_far (p := ⟨A, _, none⟩) D.out _).trans (((cell_far (p := ⟨A, _, none⟩) D.out _).trans (hHeld.2.2.2.2.2.2.2.2.2.2.2.1)))))))))))), ((cell_far (p := ⟨A, _, none⟩) D.out _).trans (((cell_far (p := ⟨A, _, none⟩) D.out _).trans (((cell_far (p := ⟨A, _, none⟩) D.out _).trans (((cell_far (p := ⟨A, _, none⟩) D.out _).trans (((cell_far (p := ⟨A, _, none⟩) D.out _).trans (((cell_far (p := ⟨A, _, none⟩) D.out _).trans (hHeld.2.2.2.2.2.2.2.2.2.2.2.2.1)))))))))))), ((cell_far (p := ⟨A, _, none⟩) D.out _).trans (((cell_far (p := ⟨A, _, none⟩) D.out _).trans (((cell_far (p := ⟨A, _, none⟩) D.out _).trans (((cell_far (p := ⟨A, _, none⟩) D.out _).trans (((cell_far (p := ⟨A, _, none⟩) D.out _).trans (((cell_far (p := ⟨A, _, none⟩) D.out _).trans (hHeld.2.2.2.2.2.2.2.2.2.2.2.2.2.1)))))))))))), ((cell_far (p := ⟨A, _, none⟩) D.out _).trans (((cell_far (p := ⟨A, _, none⟩) D.out _).trans (((cell_far (p := ⟨A, _, none⟩) D.out _).trans (((cell_far (p := ⟨A, _, none⟩) D.out _).trans (((cell_far (p := ⟨A, _, none⟩) D.out _).trans (((cell_far (p := ⟨A, _, none⟩) D.out _).trans (hHeld.2.2.2.2.2.2.2.2.2.2.2.2.2.2.1)))))))))))), ((cell_far (p := ⟨A, _, none⟩) D.out _).trans (((cell_far (p := ⟨A, _, none⟩) D.out _).trans (((cell_far (p := ⟨A, _, none⟩) D.out _).trans (((cell_far (p := ⟨A, _, none⟩) D.out _).trans (((cell_far (p := ⟨A, _, none⟩) D.out _).trans (((cell_far (p := ⟨A, _, none⟩) D.out _).trans (hHeld.2.2.2.2.2.2.2.2.2.2.2.2.2.2.2.1)))))))))))), ((cell_far (p := ⟨A, _, none⟩) D.out _).trans (((cell_far (p := ⟨A, _, none⟩) D.out _).trans (((cell_far (p := ⟨A, _, none⟩) D.out _).trans (((cell_far (p := ⟨A, _, none⟩) D.out _).trans (((cell_far (p := ⟨A, _, none⟩) D.out _).trans (((cell_far (p := ⟨A, _, none⟩) D.out _).trans (hHeld.2.2.2.2.2.2.2.2.2.2.2.2.2.2.2.2))))))))))))⟩ (fun hHeld => ?_)
 clear hK K
 generalize hW_ : (World.setCell (World.setCell (World.setCell (World.setCell (World.setCell (World.setCell wt0_ ⟨A, 0, none⟩ _) ⟨A, 1, none⟩ _) ⟨A, 2, none⟩ _) ⟨A, 3, none⟩ _) ⟨A, 4, none⟩ _) ⟨A, 5, none⟩ _) = wt1_ at hHeld ⊢
 replace hW_ : sets A wt0_ 0 [.slice F0 g0.length G0, .slice I0 q0.length J0, .slice L0 t0.length M0, .int .i64 C0, .int .i64 D0, .int .i64 E0] = wt1_ := hW_
 have m0 := tR hW_ m0.out L.out (by decide)
 have n0 := tQ hW_ n0.out L.out (by decide)
 have o0 := tR hW_ o0.out L.out (by decide)
 have f2 := tR hW_ f2.out L.out (by decide)
 have I := tB hW_ I.out (Aside0.out (by assumption))
 have J := tB hW_ J.out (Aside0.out (by assumption))
 have M := tB hW_ M.out (Aside0.out (by assumption))
 have HB := tH hW_ HB.out (Aside0.out (by assumption))
 have HI549 := tI hW_ HI549.out (Aside0.out (by assumption))
 have L : Aside0 (wt1_.heap[A]? = some (.cells #[.slice F0 g0.length G0, .slice I0 q0.length J0, .slice L0 t0.length M0, .int .i64 C0, .int .i64 D0, .int .i64 E0] 30 (0, 0))) := tS hW_ L.out (by simp only [putsA, zq1, zq2, zq3])
 clear hW_
 refine zP 13 4 (bl 14 16383) HT_ ?_
 refine done_ (done_of HT_.out (by kernel_rfl)) ?_
 try go_wp2
 refine bodyPost_ret (results_list (rs := [.cell 2 35, .cell 3 30, .tmp 4]) rfl (by simp) (.cell u 35 #[.int .i64 f1, .int .i64 g1, .int .i64 i1, .int .i64 j1, .int .i64 l1, .int .i64 m1, .int .i64 n1, .int .i64 o1, .int .i64 p1, .int .i64 q1, .int .i64 t1] (0, 0) _ rfl (zW I) Try.underlying35 rfl (by kernel_rfl) (.cell A 30 #[.slice F0 g0.length G0, .slice I0 q0.length J0, .slice L0 t0.length M0, .int .i64 C0, .int .i64 D0, .int .i64 E0] (0, 0) _ rfl (zW L) Try.underlying30 rfl (by kernel_rfl) (.tmp .nil)))) rfl ?_
 exact ⟨_, _, _, _, zE, Kd.R_mono (zlR (Kd.R_types (Kd.R_types m0.out I.out (by decide)) L.out (by decide))) (fun _ hk => ⟨hk.1.1.1.1, ⟨hk.1.1.1.2, hk.1.1.2⟩⟩), Kd.Q_mono (zlQ (Kd.Q_types (Kd.Q_types n0.out I.out (by decide)) L.out (by decide))) (fun _ hk => ⟨hk.1.1.1.1, ⟨hk.1.1.1.2, hk.1.1.2⟩⟩), Kd.R_mono (zlR (Kd.R_types (Kd.R_types o0.out I.out (by decide)) L.out (by decide))) (fun _ hk => ⟨hk.1.1.1.1, ⟨hk.1.1.1.2, hk.1.1.2⟩⟩), Kd.R_mono (zlR (Kd.R_types (Kd.R_types f2.out I.out (by decide)) L.out (by decide))) (fun _ hk => ⟨hk.1.1.1.1.2, ⟨hk.1.1.1.2, hk.1.1.2⟩⟩), ww15f⟩
def laws_at.f (u : List Int) (q : Int) : Option (Int) := if q < (u.length : Int) then (if 0 ≤ q then (some (wrap64 (rd u q))) else (none)) else (some (Int.tmod (wrap64 (q * 37)) 251))
theorem laws_at.calls (O) (T) (u : List Int) (q) (r) (w) (E : Kd.C (Kd.int .u8) w O u.length u) (I : u.length ≤ T) (h : laws_at.f u q = some r) :
 Calls Try.prog 27 #[.slice O u.length T, .int .i64 q] w fun e w' => e = .returned (.int .i64 r) ∧ Drawn0 w w' := by
 have U := zK E
 have b0 := zK I
 clear E I
 have H : (if q < (u.length : Int) then (if 0 ≤ q then (some (wrap64 (rd u q))) else (none)) else (some (Int.tmod (wrap64 (q * 37)) 251))) = some r := h
 clear h
 by_cases A : q < (u.length : Int)
 rotate_left
 · rw [if_neg A] at H
   have J := z2 A
   clear A
   obtain rfl := z5 H
   go_enter Try.func27, Try.ntmps27
   go_wp2
   go_ret
   exact ⟨zR, zD⟩
 rw [if_pos A] at H
 have J := z1 A
 clear A
 by_cases D : 0 ≤ q
 rotate_left
 · rw [if_neg D] at H
   exact absurd H (by simp)
 rw [if_pos D] at H
 have a0 := z1 D
 clear D
 obtain rfl := z5 H
 have y : 0 ≤ (q : Int) := z3
 have z : q < (u.length : Int) := z3
 obtain ⟨X, L, M⟩ := Kd.at_int U.out q y z
 cases L
 replace y := eq_true y
 replace z := eq_true z
 go_enter Try.func27, Try.ntmps27
 go_wp2
 go_ret
 exact ⟨zR, zD⟩
def laws_sameInts.l0 : Nat → List Int → List Int → Int → Option (Bool)
 | 0, _, _, _ => none
 | k + 1, u, y, q => if q < (u.length : Int) then (if 0 ≤ q then (if q < (y.length : Int) then (if (rd u q) = (rd y q) then (laws_sameInts.l0 k u y (wrap64 (q + 1))) else (some false)) else (none)) else (none)) else (some true)
def laws_sameInts.f (k : Nat) (q : List Int) (u : List Int) : Option (Bool) := if (q.length : Int) = (u.length : Int) then (laws_sameInts.l0 k q u 0) else (some false)
theorem laws_sameInts.calls (k) (A0) (c0) (u : List Int) (A1) (c1) (y : List Int) (r : Bool) (w) (i0 : Kd.C (Kd.int .i64) w A0 u.length u) (j0 : u.length ≤ c0) (m0 : Kd.C (Kd.int .i64) w A1 y.length y) (n0 : y.length ≤ c1) (h : laws_sameInts.f k u y = some r) :
 Calls Try.prog 28 #[.slice A0 u.length c0, .slice A1 y.length c1] w fun e w' => e = .returned (.bool r) ∧ Drawn0 w w' := by
 have o0 := zK i0
 have G0 := zK j0
 clear i0 j0
 have p0 := zK m0
 have I0 := zK n0
 clear m0 n0
 have H : (if (u.length : Int) = (y.length : Int) then (laws_sameInts.l0 k u y 0) else (some false)) = some r := h
 clear h
 by_cases I : (u.length : Int) = (y.length : Int)
 rotate_left
 · rw [if_neg I] at H
   have X := beq_eq_false_iff_ne.mpr I
   have a0 := bne_iff_ne.mpr I
   have b0 : (u.length == y.length) = false := by first | simpa using I | (simp at I ⊢; omega)
   obtain rfl := z5 H
   go_enter Try.func28, Try.ntmps28
   go_wp2
   repeat (go_quiet (fail); try go_wp2)
   go_ret
   exact ⟨zR, zD⟩
 rw [if_pos I] at H
 have X := beq_iff_eq.mpr I
 have a0 := bne_eq_false_iff_eq.mpr I
 have b0 : (u.length == y.length) = true := by first | simpa using I | (simp at I ⊢; omega)
 clear I
 have H' := zK H
 clear H
 go_enter Try.func28, Try.ntmps28
 go_wp2
 repeat (go_quiet (fail); try go_wp2)
 go_loopg [5] k (fun kq v5 w' => ∃ (q : Int), v5 = .int .i64 q ∧ Aside0 (laws_sameInts.l0 kq u y q = some r) ∧ Aside0 (kq ≤ k) ∧ Drawn0 w w')
 case atStart => exact ⟨(0), zR, H', ⟨Nat.le_refl _⟩, zD⟩
 clear H'
 try clear c1
 try clear c2
 try clear p2
 try clear I
 try clear X
 try clear a0
 try clear b0
 obtain ⟨q, rfl, HA, q0, ⟨m1, rfl⟩⟩ := hrel
 rcases gk with _ | k1
 · exact absurd HA.out (by simp [laws_sameInts.l0])
 have H := HA.out
 clear HA
 simp only [laws_sameInts.l0] at H
 by_cases O : q < (u.length : Int)
 rotate_left
 · rw [if_neg O] at H
   have t0 := z2 O
   clear O
   obtain rfl := z5 H
   go_wp2
   repeat (go_quiet (fail); try go_wp2)
   go_ret
   exact ⟨zR, zD⟩
 rw [if_pos O] at H
 have t0 := z1 O
 clear O
 by_cases c5 : 0 ≤ q
 rotate_left
 · rw [if_neg c5] at H
   exact absurd H (by simp)
 rw [if_pos c5] at H
 have E0 := z1 c5
 clear c5
 by_cases c6 : q < (y.length : Int)
 rotate_left
 · rw [if_neg c6] at H
   exact absurd H (by simp)
 rw [if_pos c6] at H
 have F0 := z1 c6
 clear c6
 by_cases J : (rd u q) = (rd y q)
 rotate_left
 · rw [if_neg J] at H
   have x0 := beq_eq_false_iff_ne.mpr J
   have y0 := bne_iff_ne.mpr J
   obtain rfl := z5 H
   have z : 0 ≤ (q : Int) := z3
   have A : q < (u.length : Int) := z3
   obtain ⟨f0, L, T⟩ := Kd.at_int o0.out q z A
   cases L
   replace z := eq_true z
   replace A := eq_true A
   have D : 0 ≤ (q : Int) := z3
   have E : q < (y.length : Int) := z3
   obtain ⟨g0, M, U⟩ := Kd.at_int p0.out q D E
   cases M
   replace D := eq_true D
   replace E := eq_true E
   go_wp2
   repeat (go_quiet (fail); try go_wp2)
   go_ret
   exact ⟨zR, zD⟩
 rw [if_pos J] at H
 have x0 := beq_iff_eq.mpr J
 have y0 := bne_eq_false_iff_eq.mpr J
 clear J
 have H' := zK H
 clear H
 have z : 0 ≤ (q : Int) := z3
 have A : q < (u.length : Int) := z3
 obtain ⟨f0, L, T⟩ := Kd.at_int o0.out q z A
 cases L
 replace z := eq_true z
 replace A := eq_true A
 have D : 0 ≤ (q : Int) := z3
 have E : q < (y.length : Int) := z3
 obtain ⟨g0, M, U⟩ := Kd.at_int p0.out q D E
 cases M
 replace D := eq_true D
 replace E := eq_true E
 go_wp2
 repeat (go_quiet (fail); try go_wp2)
 go_roundg k1
 case measure => have := q0.out; omega
 case rel => exact ⟨(wrap64 (q + 1)), zR, H', ⟨by have := q0.out; omega⟩, zD⟩
end Go.Proofs.Ytodfhokndnmdoaa.PFnFactor
