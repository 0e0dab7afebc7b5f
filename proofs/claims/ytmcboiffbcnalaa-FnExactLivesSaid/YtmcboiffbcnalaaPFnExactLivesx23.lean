-- Printed out of the translation by this session's own turned copy of a printer; Lean checks it.
import Derived.Test.YtmcboiffbcnalaaEFnExactLivesm
import Derived.Test.YtmcboiffbcnalaaPFnExactLivesx0
namespace Go.Proofs.Ytmcboiffbcnalaa.PFnExactLives
open Go.RowKit Go.Proofs.YtmcboiffbcnalaaW.PrintWords Go.Proofs.YtmcboiffbcnalaaW.PrintLast Go.Proofs.YtmcboiffbcnalaaW.PrintMore
attribute [local go_sem] max2_int min2_int max_two min_two max_three min_three max_four min_four
set_option linter.unusedVariables false
set_option linter.unusedSimpArgs false
set_option maxHeartbeats 8000000
set_option maxRecDepth 100000
def laws_markNest.f (l : List Int) (q : List Int) (u : List (S71)) (y : List (S79)) (z : List Int) (A : Int) : Option (Int) := Marks.markF l q u y z A
def laws_markLifeS.l0 : Nat → List (S52) → Int → Int → Option (Int × (List (S52)))
 | 0, _, _, _ => none
 | k + 1, z, A, l => if l < (z.length : Int) then (if 0 ≤ l then ((some (z.set (l : Int).toNat (⟨A, (rd_T52 z l).f1, (rd_T52 z l).f2, (rd_T52 z l).f3⟩ : S52) : List (S52))).bind fun q => ((some (q.set (l : Int).toNat (⟨(rd_T52 q l).f0, wrap64 (A + 1), (rd_T52 q l).f2, (rd_T52 q l).f3⟩ : S52) : List (S52))).bind fun u => ((some (u.set (l : Int).toNat (⟨(rd_T52 u l).f0, (rd_T52 u l).f1, wrap64 ((wrap64 (A + 1)) + 1), (rd_T52 u l).f3⟩ : S52) : List (S52))).bind fun y => (laws_markLifeS.l0 k (y.set (l : Int).toNat (⟨(rd_T52 y l).f0, (rd_T52 y l).f1, (rd_T52 y l).f2, wrap64 ((wrap64 ((wrap64 (A + 1)) + 1)) + 1)⟩ : S52)) (wrap64 ((wrap64 ((wrap64 ((wrap64 (A + 1)) + 1)) + 1)) + 1)) (wrap64 (l + 1)))))) else (none)) else (some (A, z))
def laws_markLifeS.f (k : Nat) (l : List (S52)) (q : Int) : Option (Int × (List (S52))) := laws_markLifeS.l0 k l q 0
theorem laws_markLifeS.calls (k) (E : Nat → Prop) (u9000_ : Value) (l0 : List (S52)) (a1) (r1) (r2 : List (S52)) (w0 w : World) (hB : Below w0.heap.size w0 w) (M0 : Kd.R k52 52 w w0.heap.size E u9000_ l0) (h : laws_markLifeS.f k l0 a1 = some (r1, r2)) :
 Calls Try.prog 17 #[u9000_, .int .i64 a1] w fun e w' => e = .returned (.int .i64 r1) ∧ Kd.R k52 52 w' w0.heap.size (fun k_ => (E k_ ∨ w.heap.size ≤ k_)) u9000_ r2 ∧ Below w0.heap.size w0 w' ∧ Kept w w' (fun k_ => E k_) := by
 have N0 := zK (show Kd.R k52 52 w w0.heap.size (fun k_ => (E k_ ∨ w.heap.size ≤ k_)) u9000_ l0 from Kd.R_mono M0 (fun k_ hk => (.inl hk)))
 have HK := zK (Kept.refl w (fun k_ => E k_))
 have HW0 := zK hB.size
 have HB := zK hB
 clear hB
 have H : (laws_markLifeS.l0 k l0 a1 0) = some (r1, r2) := h
 clear h
 have H' := zK H
 clear H
 go_enter Try.func17, Try.ntmps17
 go_wp2
 go_loopg [1, 5] k (fun kq v1 v5 w' => ∃ (q : List (S52)) (u : Int) (l : Int), v1 = .int .i64 u ∧ v5 = .int .i64 l ∧ Aside0 (laws_markLifeS.l0 kq q u l = some (r1, r2)) ∧ Aside0 (kq ≤ k) ∧ Aside0 (Kd.R k52 52 w' w0.heap.size (fun k_ => (E k_ ∨ w.heap.size ≤ k_)) u9000_ q) ∧ Aside0 (Kept w w' (fun k_ => E k_)) ∧ Aside0 (Below w0.heap.size w0 w'))
 case atStart => exact ⟨(l0), (a1), (0), zR, zR, H', ⟨Nat.le_refl _⟩, ⟨zkR N0⟩, ⟨by repeat (first | (with_reducible first | exact HK.out | apply Kept.alloc | apply Kept.drewN | apply Kept.drew) | exact HK.out)⟩, ⟨zB⟩⟩
 clear H'
 try clear c1
 try clear p2
 obtain ⟨q, u, l, rfl, rfl, HA, t0, y, HK, HB⟩ := hrel
 rcases gk with _ | k1
 · exact absurd HA.out (by simp [laws_markLifeS.l0])
 have H := HA.out
 clear HA
 simp only [laws_markLifeS.l0] at H
 by_cases c3 : l < (q.length : Int)
 rotate_left
 · rw [if_neg c3] at H
   have A0 := z2 c3
   clear c3
   simp only [Option.some.injEq, Prod.mk.injEq] at H
   obtain ⟨rfl, rfl⟩ := H
   obtain ⟨p1, q1, B0⟩ := Kd.R_slice y.out
   subst B0
   go_wp2
   go_ret
   exact ⟨zE, zkR y, zB, by repeat (first | (with_reducible first | exact HK.out | apply Kept.alloc | apply Kept.drewN | apply Kept.drew) | exact HK.out)⟩
 rw [if_pos c3] at H
 have A0 := z1 c3
 clear c3
 by_cases c4 : 0 ≤ l
 rotate_left
 · rw [if_neg c4] at H
   exact absurd H (by simp)
 rw [if_pos c4] at H
 have s1 := z1 c4
 clear c4
 obtain ⟨B, O⟩ : ∃ y_ : List (S52), y_ = (q.set (l : Int).toNat (⟨u, (rd_T52 q l).f1, (rd_T52 q l).f2, (rd_T52 q l).f3⟩ : S52)) := ⟨_, rfl⟩
 replace H : ((some (B.set (l : Int).toNat (⟨(rd_T52 B l).f0, wrap64 (u + 1), (rd_T52 B l).f2, (rd_T52 B l).f3⟩ : S52) : List (S52))).bind fun A => ((some (A.set (l : Int).toNat (⟨(rd_T52 A l).f0, (rd_T52 A l).f1, wrap64 ((wrap64 (u + 1)) + 1), (rd_T52 A l).f3⟩ : S52) : List (S52))).bind fun z => (laws_markLifeS.l0 k1 (z.set (l : Int).toNat (⟨(rd_T52 z l).f0, (rd_T52 z l).f1, (rd_T52 z l).f2, wrap64 ((wrap64 ((wrap64 (u + 1)) + 1)) + 1)⟩ : S52)) (wrap64 ((wrap64 ((wrap64 ((wrap64 (u + 1)) + 1)) + 1)) + 1)) (wrap64 (l + 1))))) = some (r1, r2) := by first | (rw [O]; with_reducible exact H) | (have I := (Option.bind_some _ _).symm.trans H; rw [O]; with_reducible exact I) | (have I := (Option.bind_some _ _).symm.trans H; with_reducible exact I) | with_reducible exact H | (rw [O]; exact H) | exact H
 have Ny443 := zK O
 clear O
 obtain ⟨A, T⟩ : ∃ y_ : List (S52), y_ = (B.set (l : Int).toNat (⟨(rd_T52 B l).f0, wrap64 (u + 1), (rd_T52 B l).f2, (rd_T52 B l).f3⟩ : S52)) := ⟨_, rfl⟩
 replace H : ((some (A.set (l : Int).toNat (⟨(rd_T52 A l).f0, (rd_T52 A l).f1, wrap64 ((wrap64 (u + 1)) + 1), (rd_T52 A l).f3⟩ : S52) : List (S52))).bind fun z => (laws_markLifeS.l0 k1 (z.set (l : Int).toNat (⟨(rd_T52 z l).f0, (rd_T52 z l).f1, (rd_T52 z l).f2, wrap64 ((wrap64 ((wrap64 (u + 1)) + 1)) + 1)⟩ : S52)) (wrap64 ((wrap64 ((wrap64 ((wrap64 (u + 1)) + 1)) + 1)) + 1)) (wrap64 (l + 1)))) = some (r1, r2) := by first | (rw [T]; with_reducible exact H) | (have I := (Option.bind_some _ _).symm.trans H; rw [T]; with_reducible exact I) | (have I := (Option.bind_some _ _).symm.trans H; with_reducible exact I) | with_reducible exact H | (rw [T]; exact H) | exact H
 have Ny444 := zK T
 clear T
 obtain ⟨z, U⟩ : ∃ y_ : List (S52), y_ = (A.set (l : Int).toNat (⟨(rd_T52 A l).f0, (rd_T52 A l).f1, wrap64 ((wrap64 (u + 1)) + 1), (rd_T52 A l).f3⟩ : S52)) := ⟨_, rfl⟩
 replace H : (laws_markLifeS.l0 k1 (z.set (l : Int).toNat (⟨(rd_T52 z l).f0, (rd_T52 z l).f1, (rd_T52 z l).f2, wrap64 ((wrap64 ((wrap64 (u + 1)) + 1)) + 1)⟩ : S52)) (wrap64 ((wrap64 ((wrap64 ((wrap64 (u + 1)) + 1)) + 1)) + 1)) (wrap64 (l + 1))) = some (r1, r2) := by first | (rw [U]; with_reducible exact H) | (have I := (Option.bind_some _ _).symm.trans H; rw [U]; with_reducible exact I) | (have I := (Option.bind_some _ _).symm.trans H; with_reducible exact I) | with_reducible exact H | (rw [U]; exact H) | exact H
 have Ny445 := zK U
 clear U
 obtain ⟨e0, X⟩ : ∃ y_ : List (S52), y_ = (z.set (l : Int).toNat (⟨(rd_T52 z l).f0, (rd_T52 z l).f1, (rd_T52 z l).f2, wrap64 ((wrap64 ((wrap64 (u + 1)) + 1)) + 1)⟩ : S52)) := ⟨_, rfl⟩
 replace H : (laws_markLifeS.l0 k1 e0 (wrap64 ((wrap64 ((wrap64 ((wrap64 (u + 1)) + 1)) + 1)) + 1)) (wrap64 (l + 1))) = some (r1, r2) := by first | (rw [X]; with_reducible exact H) | (have I := (Option.bind_some _ _).symm.trans H; rw [X]; with_reducible exact I) | (have I := (Option.bind_some _ _).symm.trans H; with_reducible exact I) | with_reducible exact H | (rw [X]; exact H) | exact H
 have Ny446 := zK X
 clear X
 have H' := zK H
 clear H
 obtain ⟨t1, a0, O0⟩ := Kd.R_slice y.out
 subst O0
 have p5 : 0 ≤ (l : Int) := z3
 have q5 : (l : Int) < ((q.length : Int) : Int) := z3
 obtain ⟨go5, x1, x0, y0, gl5, cl5, HG5⟩ := Kd.R_form y.out (by omega)
 (first | cases x0 | (injection x0 with ea_ en_ ec_; (first | subst ea_ | (injection ea_ with ea_; subst ea_)); subst ec_; clear en_))
 have GB5 := zK y0
 have GG5 := zK HG5
 clear y0 gl5 HG5
 have HMgo5 := zK (show (E go5 ∨ w.heap.size ≤ go5) from (y.out.1 _ rfl))
 obtain ⟨ce5, hcl5, hM5, hcc5, hfr5⟩ := Kd.R_elem y.out z52 (l : Int) p5 q5
 obtain rfl := k52_openM hM5
 have R0 : wr.cell? ⟨go5, (l : Int).toNat * 4, none⟩ = some (.int .i64 ((rd_T52 q l).f0)) := hcc5 0 _ rfl
 have S0 : wr.cell? ⟨go5, (l : Int).toNat * 4 + 1, none⟩ = some (.int .i64 ((rd_T52 q l).f1)) := hcc5 1 _ rfl
 have T0 : wr.cell? ⟨go5, (l : Int).toNat * 4 + 2, none⟩ = some (.int .i64 ((rd_T52 q l).f2)) := hcc5 2 _ rfl
 have U0 : wr.cell? ⟨go5, (l : Int).toNat * 4 + 3, none⟩ = some (.int .i64 ((rd_T52 q l).f3)) := hcc5 3 _ rfl
 have hf5_0 : wr.frozen? ⟨go5, (l : Int).toNat * 4, none⟩ = false := hfr5 0
 have hf5_1 : wr.frozen? ⟨go5, (l : Int).toNat * 4 + 1, none⟩ = false := hfr5 1
 have hf5_2 : wr.frozen? ⟨go5, (l : Int).toNat * 4 + 2, none⟩ = false := hfr5 2
 have hf5_3 : wr.frozen? ⟨go5, (l : Int).toNat * 4 + 3, none⟩ = false := hfr5 3
 clear hcl5 hcc5 hfr5 hM5
 replace p5 := eq_true p5
 replace q5 := eq_true q5
 have HX10 := zK (show Kd.R k52 52 wr w0.heap.size (fun k_ => (E k_ ∨ w.heap.size ≤ k_)) (.slice (some ⟨go5, 0, none⟩) q.length a0) q from (zkR y))
 obtain ⟨ce10, hcl10, hM10, hcc10, hfr10⟩ := Kd.R_elem HX10.out z52 (l : Int) (z3) (by have h_ : (l : Int) < ((q.length : Int) : Int) := z3; first | exact h_ | (have e_ := (Kd.R_reads' y.out).1; omega) | simpa using h_)
 obtain rfl := k52_openM hM10
 have HP10 := Kd.R_seg HX10.out (l : Int) (z3) (by have h_ : (l : Int) < ((q.length : Int) : Int) := z3; first | exact h_ | (have e_ := (Kd.R_reads' y.out).1; omega) | simpa using h_) (seg := [.int .i64 u]) (j := 0) hcl10 hcc10 (show 1 ≤ 4 from by decide) (x' := (⟨u, (rd_T52 q l).f1, (rd_T52 q l).f2, (rd_T52 q l).f3⟩ : S52)) (k52_mkM _ _ _ (⟨u, (rd_T52 q l).f1, (rd_T52 q l).f2, (rd_T52 q l).f3⟩ : S52) ) (fun _ hk => hk)
 have j0 := hcc10 0 _ rfl
 (try simp only [show (k52).sz = 4 from rfl, Nat.mul_one, Nat.add_zero] at j0)
 have hf10_0 := hfr10 0
 (try simp only [show (k52).sz = 4 from rfl, Nat.mul_one, Nat.add_zero] at hf10_0)
 clear hcl10 hcc10 hfr10 hM10
 go_wp2_with (first | ((with_reducible refine gate_store (t := 3) (p := 16) rfl ?_); refine store_event (t := 3) (p := 16) (v := ?vo_w11) (w1 := (wr.setCell ⟨go5, (l : Int).toNat * 4, none⟩ (.int .i64 u))) ?hg ?ho ?hn ?hr ?_; (case ho => rfl); (case hg => rfl); (case hn => rfl); (case hr => first | (go_simp; done) | (go_simp; rfl)); intro J hw; have hg : wr.grownBy J (some go5) := (by rw [hw]; exact HP10.2); have hp_ : Kd.R k52 52 J w0.heap.size (fun k_ => (E k_ ∨ w.heap.size ≤ k_)) (.slice (some ⟨go5, 0, none⟩) q.length a0) B := (by rw [hw, Ny443.out]; exact HP10.1); clear HP10; have b0 := zK (hp_); have c0 := zK ((by rw [hw]; exact zs (HB.out) GB5.out : Below w0.heap.size w0 J)); have d0 := zK (Kept.of_grown (S := (fun k_ => E k_)) hg (by repeat (first | (with_reducible first | exact HK.out | apply Kept.alloc | apply Kept.drewN | apply Kept.drew) | exact HK.out)) (fun k_ e_ => (y.out.1 k_ e_))); revert b0 c0 d0; clear y HB HK; intro y HB HK; clear hg hw hp_; have p6 : 0 ≤ (l : Int) := z3; have q6 : (l : Int) < ((q.length : Int) : Int) := z3; obtain ⟨ce6, hcl6, hM6, hcc6, hfr6⟩ := Kd.R_elem y.out z52 (l : Int) p6 q6; obtain rfl := k52_openM hM6; have V0 : J.cell? ⟨go5, (l : Int).toNat * 4, none⟩ = some (.int .i64 ((rd_T52 B l).f0)) := hcc6 0 _ rfl; have X0 : J.cell? ⟨go5, (l : Int).toNat * 4 + 1, none⟩ = some (.int .i64 ((rd_T52 B l).f1)) := hcc6 1 _ rfl; have b1 : J.cell? ⟨go5, (l : Int).toNat * 4 + 2, none⟩ = some (.int .i64 ((rd_T52 B l).f2)) := hcc6 2 _ rfl; have d1 : J.cell? ⟨go5, (l : Int).toNat * 4 + 3, none⟩ = some (.int .i64 ((rd_T52 B l).f3)) := hcc6 3 _ rfl; have hf6_0 : J.frozen? ⟨go5, (l : Int).toNat * 4, none⟩ = false := hfr6 0; have hf6_1 : J.frozen? ⟨go5, (l : Int).toNat * 4 + 1, none⟩ = false := hfr6 1; have hf6_2 : J.frozen? ⟨go5, (l : Int).toNat * 4 + 2, none⟩ = false := hfr6 2; have hf6_3 : J.frozen? ⟨go5, (l : Int).toNat * 4 + 3, none⟩ = false := hfr6 3; clear hcl6 hcc6 hfr6 hM6; replace p6 := eq_true p6; replace q6 := eq_true q6; have HX12 := zK (show Kd.R k52 52 J w0.heap.size (fun k_ => (E k_ ∨ w.heap.size ≤ k_)) (.slice (some ⟨go5, 0, none⟩) q.length a0) B from (zkR y)); obtain ⟨ce12, hcl12, hM12, hcc12, hfr12⟩ := Kd.R_elem HX12.out z52 (l : Int) (z3) (by have h_ : (l : Int) < ((q.length : Int) : Int) := z3; first | exact h_ | (have e_ := (Kd.R_reads' y.out).1; omega) | simpa using h_); obtain rfl := k52_openM hM12; have HP12 := Kd.R_seg HX12.out (l : Int) (z3) (by have h_ : (l : Int) < ((q.length : Int) : Int) := z3; first | exact h_ | (have e_ := (Kd.R_reads' y.out).1; omega) | simpa using h_) (seg := [.int .i64 (wrap64 (u + 1))]) (j := 1) hcl12 hcc12 (show 2 ≤ 4 from by decide) (x' := (⟨(rd_T52 B l).f0, wrap64 (u + 1), (rd_T52 B l).f2, (rd_T52 B l).f3⟩ : S52)) (k52_mkM _ _ _ (⟨(rd_T52 B l).f0, wrap64 (u + 1), (rd_T52 B l).f2, (rd_T52 B l).f3⟩ : S52) ) (fun _ hk => hk); have m0 := hcc12 1 _ rfl; (try simp only [show (k52).sz = 4 from rfl, Nat.mul_one, Nat.add_zero] at m0); have hf12_1 := hfr12 1; (try simp only [show (k52).sz = 4 from rfl, Nat.mul_one, Nat.add_zero] at hf12_1); clear hcl12 hcc12 hfr12 hM12) | ((with_reducible refine gate_store (t := 3) (p := 23) rfl ?_); refine store_event (t := 3) (p := 23) (v := ?vo_w13) (w1 := (J.setCell ⟨go5, (l : Int).toNat * 4 + 1, none⟩ (.int .i64 (wrap64 (u + 1))))) ?hg ?ho ?hn ?hr ?_; (case ho => rfl); (case hg => rfl); (case hn => rfl); (case hr => first | (go_simp; done) | (go_simp; rfl)); intro L hw; have hg : J.grownBy L (some go5) := (by rw [hw]; exact HP12.2); have hp_ : Kd.R k52 52 L w0.heap.size (fun k_ => (E k_ ∨ w.heap.size ≤ k_)) (.slice (some ⟨go5, 0, none⟩) q.length a0) A := (by rw [hw, Ny444.out]; exact HP12.1); clear HP12; have b0 := zK (hp_); have c0 := zK ((by rw [hw]; exact zs (HB.out) GB5.out : Below w0.heap.size w0 L)); have d0 := zK (Kept.of_grown (S := (fun k_ => E k_)) hg (by repeat (first | (with_reducible first | exact HK.out | apply Kept.alloc | apply Kept.drewN | apply Kept.drew) | exact HK.out)) (fun k_ e_ => (y.out.1 k_ e_))); revert b0 c0 d0; clear y HB HK; intro y HB HK; clear hg hw hp_; have p7 : 0 ≤ (l : Int) := z3; have q7 : (l : Int) < ((q.length : Int) : Int) := z3; obtain ⟨ce7, hcl7, hM7, hcc7, hfr7⟩ := Kd.R_elem y.out z52 (l : Int) p7 q7; obtain rfl := k52_openM hM7; have e1 : L.cell? ⟨go5, (l : Int).toNat * 4, none⟩ = some (.int .i64 ((rd_T52 A l).f0)) := hcc7 0 _ rfl; have g1 : L.cell? ⟨go5, (l : Int).toNat * 4 + 1, none⟩ = some (.int .i64 ((rd_T52 A l).f1)) := hcc7 1 _ rfl; have i1 : L.cell? ⟨go5, (l : Int).toNat * 4 + 2, none⟩ = some (.int .i64 ((rd_T52 A l).f2)) := hcc7 2 _ rfl; have j1 : L.cell? ⟨go5, (l : Int).toNat * 4 + 3, none⟩ = some (.int .i64 ((rd_T52 A l).f3)) := hcc7 3 _ rfl; have hf7_0 : L.frozen? ⟨go5, (l : Int).toNat * 4, none⟩ = false := hfr7 0; have hf7_1 : L.frozen? ⟨go5, (l : Int).toNat * 4 + 1, none⟩ = false := hfr7 1; have hf7_2 : L.frozen? ⟨go5, (l : Int).toNat * 4 + 2, none⟩ = false := hfr7 2; have hf7_3 : L.frozen? ⟨go5, (l : Int).toNat * 4 + 3, none⟩ = false := hfr7 3; clear hcl7 hcc7 hfr7 hM7; replace p7 := eq_true p7; replace q7 := eq_true q7; have HX14 := zK (show Kd.R k52 52 L w0.heap.size (fun k_ => (E k_ ∨ w.heap.size ≤ k_)) (.slice (some ⟨go5, 0, none⟩) q.length a0) A from (zkR y)); obtain ⟨ce14, hcl14, hM14, hcc14, hfr14⟩ := Kd.R_elem HX14.out z52 (l : Int) (z3) (by have h_ : (l : Int) < ((q.length : Int) : Int) := z3; first | exact h_ | (have e_ := (Kd.R_reads' y.out).1; omega) | simpa using h_); obtain rfl := k52_openM hM14; have HP14 := Kd.R_seg HX14.out (l : Int) (z3) (by have h_ : (l : Int) < ((q.length : Int) : Int) := z3; first | exact h_ | (have e_ := (Kd.R_reads' y.out).1; omega) | simpa using h_) (seg := [.int .i64 (wrap64 ((wrap64 (u + 1)) + 1))]) (j := 2) hcl14 hcc14 (show 3 ≤ 4 from by decide) (x' := (⟨(rd_T52 A l).f0, (rd_T52 A l).f1, wrap64 ((wrap64 (u + 1)) + 1), (rd_T52 A l).f3⟩ : S52)) (k52_mkM _ _ _ (⟨(rd_T52 A l).f0, (rd_T52 A l).f1, wrap64 ((wrap64 (u + 1)) + 1), (rd_T52 A l).f3⟩ : S52) ) (fun _ hk => hk); have n0 := hcc14 2 _ rfl; (try simp only [show (k52).sz = 4 from rfl, Nat.mul_one, Nat.add_zero] at n0); have hf14_2 := hfr14 2; (try simp only [show (k52).sz = 4 from rfl, Nat.mul_one, Nat.add_zero] at hf14_2); clear hcl14 hcc14 hfr14 hM14) | ((with_reducible refine gate_store (t := 3) (p := 30) rfl ?_); refine store_event (t := 3) (p := 30) (v := ?vo_w15) (w1 := (L.setCell ⟨go5, (l : Int).toNat * 4 + 2, none⟩ (.int .i64 (wrap64 ((wrap64 (u + 1)) + 1))))) ?hg ?ho ?hn ?hr ?_; (case ho => rfl); (case hg => rfl); (case hn => rfl); (case hr => first | (go_simp; done) | (go_simp; rfl)); intro M hw; have hg : L.grownBy M (some go5) := (by rw [hw]; exact HP14.2); have hp_ : Kd.R k52 52 M w0.heap.size (fun k_ => (E k_ ∨ w.heap.size ≤ k_)) (.slice (some ⟨go5, 0, none⟩) q.length a0) z := (by rw [hw, Ny445.out]; exact HP14.1); clear HP14; have b0 := zK (hp_); have c0 := zK ((by rw [hw]; exact zs (HB.out) GB5.out : Below w0.heap.size w0 M)); have d0 := zK (Kept.of_grown (S := (fun k_ => E k_)) hg (by repeat (first | (with_reducible first | exact HK.out | apply Kept.alloc | apply Kept.drewN | apply Kept.drew) | exact HK.out)) (fun k_ e_ => (y.out.1 k_ e_))); revert b0 c0 d0; clear y HB HK; intro y HB HK; clear hg hw hp_; have p8 : 0 ≤ (l : Int) := z3; have q8 : (l : Int) < ((q.length : Int) : Int) := z3; obtain ⟨ce8, hcl8, hM8, hcc8, hfr8⟩ := Kd.R_elem y.out z52 (l : Int) p8 q8; obtain rfl := k52_openM hM8; have l1 : M.cell? ⟨go5, (l : Int).toNat * 4, none⟩ = some (.int .i64 ((rd_T52 z l).f0)) := hcc8 0 _ rfl; have m1 : M.cell? ⟨go5, (l : Int).toNat * 4 + 1, none⟩ = some (.int .i64 ((rd_T52 z l).f1)) := hcc8 1 _ rfl; have n1 : M.cell? ⟨go5, (l : Int).toNat * 4 + 2, none⟩ = some (.int .i64 ((rd_T52 z l).f2)) := hcc8 2 _ rfl; have o1 : M.cell? ⟨go5, (l : Int).toNat * 4 + 3, none⟩ = some (.int .i64 ((rd_T52 z l).f3)) := hcc8 3 _ rfl; have hf8_0 : M.frozen? ⟨go5, (l : Int).toNat * 4, none⟩ = false := hfr8 0; have hf8_1 : M.frozen? ⟨go5, (l : Int).toNat * 4 + 1, none⟩ = false := hfr8 1; have hf8_2 : M.frozen? ⟨go5, (l : Int).toNat * 4 + 2, none⟩ = false := hfr8 2; have hf8_3 : M.frozen? ⟨go5, (l : Int).toNat * 4 + 3, none⟩ = false := hfr8 3; clear hcl8 hcc8 hfr8 hM8; replace p8 := eq_true p8; replace q8 := eq_true q8; have HX16 := zK (show Kd.R k52 52 M w0.heap.size (fun k_ => (E k_ ∨ w.heap.size ≤ k_)) (.slice (some ⟨go5, 0, none⟩) q.length a0) z from (zkR y)); obtain ⟨ce16, hcl16, hM16, hcc16, hfr16⟩ := Kd.R_elem HX16.out z52 (l : Int) (z3) (by have h_ : (l : Int) < ((q.length : Int) : Int) := z3; first | exact h_ | (have e_ := (Kd.R_reads' y.out).1; omega) | simpa using h_); obtain rfl := k52_openM hM16; have HP16 := Kd.R_seg HX16.out (l : Int) (z3) (by have h_ : (l : Int) < ((q.length : Int) : Int) := z3; first | exact h_ | (have e_ := (Kd.R_reads' y.out).1; omega) | simpa using h_) (seg := [.int .i64 (wrap64 ((wrap64 ((wrap64 (u + 1)) + 1)) + 1))]) (j := 3) hcl16 hcc16 (show 4 ≤ 4 from by decide) (x' := (⟨(rd_T52 z l).f0, (rd_T52 z l).f1, (rd_T52 z l).f2, wrap64 ((wrap64 ((wrap64 (u + 1)) + 1)) + 1)⟩ : S52)) (k52_mkM _ _ _ (⟨(rd_T52 z l).f0, (rd_T52 z l).f1, (rd_T52 z l).f2, wrap64 ((wrap64 ((wrap64 (u + 1)) + 1)) + 1)⟩ : S52) ) (fun _ hk => hk); have o0 := hcc16 3 _ rfl; (try simp only [show (k52).sz = 4 from rfl, Nat.mul_one, Nat.add_zero] at o0); have hf16_3 := hfr16 3; (try simp only [show (k52).sz = 4 from rfl, Nat.mul_one, Nat.add_zero] at hf16_3); clear hcl16 hcc16 hfr16 hM16) | ((with_reducible refine gate_store (t := 3) (p := 37) rfl ?_); refine store_event (t := 3) (p := 37) (v := ?vo_w17) (w1 := (M.setCell ⟨go5, (l : Int).toNat * 4 + 3, none⟩ (.int .i64 (wrap64 ((wrap64 ((wrap64 (u + 1)) + 1)) + 1))))) ?hg ?ho ?hn ?hr ?_; (case ho => rfl); (case hg => rfl); (case hn => rfl); (case hr => first | (go_simp; done) | (go_simp; rfl)); intro p0 hw; have hg : M.grownBy p0 (some go5) := (by rw [hw]; exact HP16.2); have hp_ : Kd.R k52 52 p0 w0.heap.size (fun k_ => (E k_ ∨ w.heap.size ≤ k_)) (.slice (some ⟨go5, 0, none⟩) q.length a0) e0 := (by rw [hw, Ny446.out]; exact HP16.1); clear HP16; have b0 := zK (hp_); have c0 := zK ((by rw [hw]; exact zs (HB.out) GB5.out : Below w0.heap.size w0 p0)); have d0 := zK (Kept.of_grown (S := (fun k_ => E k_)) hg (by repeat (first | (with_reducible first | exact HK.out | apply Kept.alloc | apply Kept.drewN | apply Kept.drew) | exact HK.out)) (fun k_ e_ => (y.out.1 k_ e_))); revert b0 c0 d0; clear y HB HK; intro y HB HK; clear hg hw hp_))
 go_roundg k1
 case measure => have := t0.out; omega
 case rel => exact ⟨(e0), (wrap64 ((wrap64 ((wrap64 ((wrap64 (u + 1)) + 1)) + 1)) + 1)), (wrap64 (l + 1)), zR, zR, H', ⟨by have := t0.out; omega⟩, ⟨zkR y⟩, ⟨by repeat (first | (with_reducible first | exact HK.out | apply Kept.alloc | apply Kept.drewN | apply Kept.drew) | exact HK.out)⟩, ⟨zB⟩⟩
def laws_heldLifeS.l0 : Nat → List (S52) → Int → Int → Option (Int)
 | 0, _, _, _ => none
 | k + 1, q, u, l => if l < (q.length : Int) then (if 0 ≤ l then (if ((rd_T52 q l).f0) = u then (if ((rd_T52 q l).f1) = (wrap64 (u + 1)) then (if ((rd_T52 q l).f2) = (wrap64 ((wrap64 (u + 1)) + 1)) then (if ((rd_T52 q l).f3) = (wrap64 ((wrap64 ((wrap64 (u + 1)) + 1)) + 1)) then (laws_heldLifeS.l0 k q (wrap64 ((wrap64 ((wrap64 ((wrap64 (u + 1)) + 1)) + 1)) + 1)) (wrap64 (l + 1))) else (some (-1))) else (some (-1))) else (some (-1))) else (some (-1))) else (none)) else (some u)
def laws_heldLifeS.f (k : Nat) (l : List (S52)) (q : Int) : Option (Int) := laws_heldLifeS.l0 k l q 0
theorem laws_heldLifeS.calls (k) (A0) (c0) (B : List (S52)) (a1) (r) (w) (O0 : Kd.C k52 w A0 B.length B) (R0 : B.length ≤ c0) (h : laws_heldLifeS.f k B a1 = some r) :
 Calls Try.prog 18 #[.slice A0 B.length c0, .int .i64 a1] w fun e w' => e = .returned (.int .i64 r) ∧ Drawn0 w w' := by
 have J := zK O0
 have o1 := zK R0
 clear O0 R0
 have H : (laws_heldLifeS.l0 k B a1 0) = some r := h
 clear h
 have H' := zK H
 clear H
 go_enter Try.func18, Try.ntmps18
 go_wp2
 go_loopg [1, 5] k (fun kq v1 v5 w' => ∃ (O : Int) (l : Int), v1 = .int .i64 O ∧ v5 = .int .i64 l ∧ Aside0 (laws_heldLifeS.l0 kq B O l = some r) ∧ Aside0 (kq ≤ k) ∧ Drawn0 w w')
 case atStart => exact ⟨(a1), (0), zR, zR, H', ⟨Nat.le_refl _⟩, zD⟩
 clear H'
 try clear c1
 try clear p2
 obtain ⟨O, l, rfl, rfl, HA, S0, ⟨m1, rfl⟩⟩ := hrel
 rcases gk with _ | k1
 · exact absurd HA.out (by simp [laws_heldLifeS.l0])
 have H := HA.out
 clear HA
 simp only [laws_heldLifeS.l0] at H
 by_cases c3 : l < (B.length : Int)
 rotate_left
 · rw [if_neg c3] at H
   have T0 := z2 c3
   clear c3
   obtain rfl := z5 H
   go_wp2
   go_ret
   exact ⟨zR, zD⟩
 rw [if_pos c3] at H
 have T0 := z1 c3
 clear c3
 by_cases c4 : 0 ≤ l
 rotate_left
 · rw [if_neg c4] at H
   exact absurd H (by simp)
 rw [if_pos c4] at H
 have n1 := z1 c4
 clear c4
 by_cases c5 : ((rd_T52 B l).f0) = O
 rotate_left
 · rw [if_neg c5] at H
   have U0 := beq_eq_false_iff_ne.mpr c5
   have V0 := bne_iff_ne.mpr c5
   obtain rfl := z5 H
   have q : 0 ≤ (l : Int) := z3
   have u : l < (B.length : Int) := z3
   obtain ⟨y, L, T, U, X, a0⟩ := at_T52 J.out l q u
   cases L
   replace q := eq_true q
   replace u := eq_true u
   go_wp2
   go_ret
   exact ⟨zR, zD⟩
 rw [if_pos c5] at H
 have U0 := beq_iff_eq.mpr c5
 have V0 := bne_eq_false_iff_eq.mpr c5
 clear c5
 by_cases c6 : ((rd_T52 B l).f1) = (wrap64 (O + 1))
 rotate_left
 · rw [if_neg c6] at H
   have X0 := beq_eq_false_iff_ne.mpr c6
   have b1 := bne_iff_ne.mpr c6
   obtain rfl := z5 H
   have q : 0 ≤ (l : Int) := z3
   have u : l < (B.length : Int) := z3
   obtain ⟨y, L, T, U, X, a0⟩ := at_T52 J.out l q u
   cases L
   replace q := eq_true q
   replace u := eq_true u
   have z : 0 ≤ (l : Int) := z3
   have A : l < (B.length : Int) := z3
   obtain ⟨M, b0, i0, j0, m0, n0⟩ := at_T52 J.out l z A
   obtain rfl : y = M := (by injection b0)
   replace z := eq_true z
   replace A := eq_true A
   go_wp2
   go_ret
   exact ⟨zR, zD⟩
 rw [if_pos c6] at H
 have X0 := beq_iff_eq.mpr c6
 have b1 := bne_eq_false_iff_eq.mpr c6
 clear c6
 by_cases c7 : ((rd_T52 B l).f2) = (wrap64 ((wrap64 (O + 1)) + 1))
 rotate_left
 · rw [if_neg c7] at H
   have d1 := beq_eq_false_iff_ne.mpr c7
   have e1 := bne_iff_ne.mpr c7
   obtain rfl := z5 H
   have q : 0 ≤ (l : Int) := z3
   have u : l < (B.length : Int) := z3
   obtain ⟨y, L, T, U, X, a0⟩ := at_T52 J.out l q u
   cases L
   replace q := eq_true q
   replace u := eq_true u
   have z : 0 ≤ (l : Int) := z3
   have A : l < (B.length : Int) := z3
   obtain ⟨M, b0, i0, j0, m0, n0⟩ := at_T52 J.out l z A
   obtain rfl : y = M := (by injection b0)
   replace z := eq_true z
   replace A := eq_true A
   have E : 0 ≤ (l : Int) := z3
   have I : l < (B.length : Int) := z3
   obtain ⟨g0, o0, p0, q0, s0, t0⟩ := at_T52 J.out l E I
   obtain rfl : y = g0 := (by injection o0)
   replace E := eq_true E
   replace I := eq_true I
   go_wp2
   go_ret
   exact ⟨zR, zD⟩
 rw [if_pos c7] at H
 have d1 := beq_iff_eq.mpr c7
 have e1 := bne_eq_false_iff_eq.mpr c7
 clear c7
 by_cases c8 : ((rd_T52 B l).f3) = (wrap64 ((wrap64 ((wrap64 (O + 1)) + 1)) + 1))
 rotate_left
 · rw [if_neg c8] at H
   have g1 := beq_eq_false_iff_ne.mpr c8
   have i1 := bne_iff_ne.mpr c8
   obtain rfl := z5 H
   have q : 0 ≤ (l : Int) := z3
   have u : l < (B.length : Int) := z3
   obtain ⟨y, L, T, U, X, a0⟩ := at_T52 J.out l q u
   cases L
   replace q := eq_true q
   replace u := eq_true u
   have z : 0 ≤ (l : Int) := z3
   have A : l < (B.length : Int) := z3
   obtain ⟨M, b0, i0, j0, m0, n0⟩ := at_T52 J.out l z A
   obtain rfl : y = M := (by injection b0)
   replace z := eq_true z
   replace A := eq_true A
   have E : 0 ≤ (l : Int) := z3
   have I : l < (B.length : Int) := z3
   obtain ⟨g0, o0, p0, q0, s0, t0⟩ := at_T52 J.out l E I
   obtain rfl : y = g0 := (by injection o0)
   replace E := eq_true E
   replace I := eq_true I
   have d0 : 0 ≤ (l : Int) := z3
   have e0 : l < (B.length : Int) := z3
   obtain ⟨x0, E0, G0, I0, J0, L0⟩ := at_T52 J.out l d0 e0
   obtain rfl : y = x0 := (by injection E0)
   replace d0 := eq_true d0
   replace e0 := eq_true e0
   go_wp2
   go_ret
   exact ⟨zR, zD⟩
 rw [if_pos c8] at H
 have g1 := beq_iff_eq.mpr c8
 have i1 := bne_eq_false_iff_eq.mpr c8
 clear c8
 have H' := zK H
 clear H
 have q : 0 ≤ (l : Int) := z3
 have u : l < (B.length : Int) := z3
 obtain ⟨y, L, T, U, X, a0⟩ := at_T52 J.out l q u
 cases L
 replace q := eq_true q
 replace u := eq_true u
 have z : 0 ≤ (l : Int) := z3
 have A : l < (B.length : Int) := z3
 obtain ⟨M, b0, i0, j0, m0, n0⟩ := at_T52 J.out l z A
 obtain rfl : y = M := (by injection b0)
 replace z := eq_true z
 replace A := eq_true A
 have E : 0 ≤ (l : Int) := z3
 have I : l < (B.length : Int) := z3
 obtain ⟨g0, o0, p0, q0, s0, t0⟩ := at_T52 J.out l E I
 obtain rfl : y = g0 := (by injection o0)
 replace E := eq_true E
 replace I := eq_true I
 have d0 : 0 ≤ (l : Int) := z3
 have e0 : l < (B.length : Int) := z3
 obtain ⟨x0, E0, G0, I0, J0, L0⟩ := at_T52 J.out l d0 e0
 obtain rfl : y = x0 := (by injection E0)
 replace d0 := eq_true d0
 replace e0 := eq_true e0
 go_wp2
 go_roundg k1
 case measure => have := S0.out; omega
 case rel => exact ⟨(wrap64 ((wrap64 ((wrap64 ((wrap64 (O + 1)) + 1)) + 1)) + 1)), (wrap64 (l + 1)), zR, zR, H', ⟨by have := S0.out; omega⟩, zD⟩
end Go.Proofs.Ytmcboiffbcnalaa.PFnExactLives
