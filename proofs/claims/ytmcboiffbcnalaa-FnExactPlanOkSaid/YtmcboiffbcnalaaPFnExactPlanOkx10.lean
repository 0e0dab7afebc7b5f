-- Printed out of the translation by this session's own turned copy of a printer; Lean checks it.
import Derived.Test.YtmcboiffbcnalaaPFnExactPlanOkx0
import Derived.Test.YtmcboiffbcnalaaPFnExactPlanOkx9
namespace Go.Proofs.Ytmcboiffbcnalaa.PFnExactPlanOk
open Go.RowKit Go.Proofs.YtmcboiffbcnalaaW.PrintWords Go.Proofs.YtmcboiffbcnalaaW.PrintLast Go.Proofs.YtmcboiffbcnalaaW.PrintMore
attribute [local go_sem] max2_int min2_int max_two min_two max_three min_three max_four min_four
set_option linter.unusedVariables false
set_option linter.unusedSimpArgs false
set_option maxHeartbeats 8000000
set_option maxRecDepth 100000
mutual
def spec_l12Free.l0 : Nat → List (S52) → List Int → Int → Int → Int → Option (Bool)
 | 0, _, _, _, _, _ => none
 | k + 1, a, u, q, x, l => if l < (a.length : Int) then (if l = q then (spec_l12Free.j1 k a u q x l true) else (if 0 ≤ l then (if l < (u.length : Int) then (if (rd u l) < 0 then (spec_l12Free.j1 k a u q x l true) else (if 0 ≤ q then (if q < (a.length : Int) then ((spec_l12Meet.f ((rd_T52 a q).f0) ((rd_T52 a q).f1) ((rd_T52 a q).f2) ((rd_T52 a q).f3) ((rd_T52 a l).f0) ((rd_T52 a l).f1) ((rd_T52 a l).f2) ((rd_T52 a l).f3)).bind fun y => (spec_l12Free.j1 k a u q x l (!y))) else (none)) else (none))) else (none)) else (none))) else (some true)
def spec_l12Free.j1 : Nat → List (S52) → List Int → Int → Int → Int → Bool → Option (Bool)
 | 0, _, _, _, _, _, _ => none
 | k + 1, l, q, u, x, a, y => if y = true then (spec_l12Free.l0 k l q u x (wrap64 (a + 1))) else (if 0 ≤ a then (if a < (q.length : Int) then (if a < (l.length : Int) then (if x < (wrap64 ((rd q a) + ((rd_T52 l a).f1))) then (if 0 ≤ u then (if u < (l.length : Int) then (if (rd q a) < (wrap64 (x + ((rd_T52 l u).f1))) then (some false) else (spec_l12Free.l0 k l q u x (wrap64 (a + 1)))) else (none)) else (none)) else (spec_l12Free.l0 k l q u x (wrap64 (a + 1)))) else (none)) else (none)) else (none))
end
def spec_l12Free.f (k : Nat) (a : List (S52)) (l : List Int) (q : Int) (u : Int) : Option (Bool) := spec_l12Free.l0 k a l q u 0
def spec_l12Free.T4 : Bool × List (List Nat × List Nat) := (true, [([], []), ([], []), ([0, 1], [0, 1]), ([2], [2]), ([3], [3]), ([3], [3]), ([4, 5, 3], [3, 4, 5]), ([6, 3], [3, 6]), ([7, 3], [3, 7]), ([3, 8], [3, 8]), ([9, 3], [9]), ([10], [10]), ([10], [10]), ([11, 12, 10], [10, 11, 12]), ([13, 10], [10, 13]), ([10], [10]), ([10], [10]), ([15, 16, 10], [10, 15, 16]), ([17, 10], [10, 17]), ([14, 18, 10, 10], [10, 14, 18]), ([19, 10], [10, 19]), ([10, 20], [10, 20])])
def spec_l12Free.B4 : List Nat := [0, 0, 3, 7, 15, 15, 63, 127, 255, 511, 1023, 2047, 2047, 8191, 16383, 2047, 2047, 100351, 231423, 524287, 1048575, 2097151]
theorem spec_l12Free.tab4 : rtab .any (opsOf Try.f46 4) = spec_l12Free.T4 := by kernel_rfl
theorem spec_l12Free.bits4 : waitsOk spec_l12Free.T4.2 spec_l12Free.B4 = true := by kernel_rfl
def spec_l12Free.T5 : Bool × List (List Nat × List Nat) := (true, [([], []), ([], []), ([], []), ([1, 2], [1, 2]), ([3], [3]), ([], []), ([], []), ([5, 6], [5, 6]), ([7], [7]), ([8], [8]), ([4, 9], [4, 9]), ([0, 10], [0, 10]), ([11], [11]), ([12], [12]), ([12], [12]), ([13, 14, 12], [12, 13, 14]), ([15, 12], [12, 15]), ([12], [12]), ([12], [12]), ([12], [12]), ([18, 19, 12], [12, 18, 19]), ([20, 12], [12, 20]), ([21, 12], [12, 21]), ([17, 22, 12], [12, 17, 22]), ([16, 23, 12], [12, 16, 23]), ([12, 24], [12, 24])])
def spec_l12Free.B5 : List Nat := [0, 0, 0, 6, 14, 0, 0, 96, 224, 480, 1022, 2047, 4095, 8191, 8191, 32767, 65535, 8191, 8191, 8191, 794623, 1843199, 3940351, 8265727, 16777215, 33554431]
theorem spec_l12Free.tab5 : rtab .any (opsOf Try.f46 5) = spec_l12Free.T5 := by kernel_rfl
theorem spec_l12Free.bits5 : waitsOk spec_l12Free.T5.2 spec_l12Free.B5 = true := by kernel_rfl
theorem spec_l12Free.calls (k) (A0) (c0) (q : List (S52)) (A1) (c1) (T : List Int) (u) (a3) (r : Bool) (w) (V2 : Kd.C k52 w A0 q.length q) (X2 : q.length ≤ c0) (b3 : Kd.C (Kd.int .i64) w A1 T.length T) (c3 : T.length ≤ c1) (h : spec_l12Free.f k q T u a3 = some r) :
 Calls Try.prog 46 #[.slice A0 q.length c0, .slice A1 T.length c1, .int .i64 u, .int .i64 a3] w fun e w' => e = .returned (.bool r) ∧ Below w.heap.size w w' := by
 have y3 := Try.underlying52
 have g1 := zK V2
 have B3 := zK X2
 clear V2 X2
 have i1 := zK b3
 have C3 := zK c3
 clear b3 c3
 have HB := zK (Below.refl w.heap.size w)
 have H : (spec_l12Free.l0 k q T u a3 0) = some r := h
 clear h
 have H' := zK H
 clear H
 go_enter Try.func46, Try.ntmps46
 go_wp2
 go_loopg [9] k (fun kq v9 w' => ∃ (a : Int), v9 = .int .i64 a ∧ Aside0 (spec_l12Free.l0 kq q T u a3 a = some r) ∧ Aside0 (kq ≤ k) ∧ Aside0 (Below w.heap.size w w'))
 case atStart => exact ⟨(0), zR, H', ⟨Nat.le_refl _⟩, ⟨zB⟩⟩
 clear H'
 try clear c1
 try clear p2
 try clear c4
 obtain ⟨a, rfl, HA, M0, HB⟩ := hrel
 rcases gk with _ | k1
 · exact absurd HA.out (by simp [spec_l12Free.l0])
 have H := HA.out
 clear HA
 simp only [spec_l12Free.l0] at H
 by_cases c5 : a < (q.length : Int)
 rotate_left
 · rw [if_neg c5] at H
   have C2 := z2 c5
   clear c5
   obtain rfl := z5 H
   go_wp2
   go_ret
   exact ⟨zE, zB⟩
 rw [if_pos c5] at H
 have C2 := z1 c5
 clear c5
 have D2 := zK H
 clear H
 go_upto_region 4 with (fail)
 go_cut [37] (fun v37 wc => ∃ (kq : Nat) (e1 : Bool), v37 = .bool e1 ∧ Aside0 (spec_l12Free.j1 kq q T u a3 a e1 = some r) ∧ Aside0 (kq ≤ k1) ∧ Aside0 (Below w.heap.size w wc))
 case first =>
  have H := D2.out
  clear D2
  by_cases c7 : a = u
  · rw [if_pos c7] at H
    have N0 := beq_iff_eq.mpr c7
    have E2 := bne_eq_false_iff_eq.mpr c7
    clear c7
    (first | rw [N0] | (simp only [i64_w, i32_w]; rw [N0]) | skip)
    have H' := zK H
    clear H
    try go_wp2
    have e0 := zK (ze HB.out)
    revert e0
    clear HB
    intro HB
    refine start_ (n := 22) (S := fun w' => True) (ds := []) (bl 22 0) (by kernel_rfl) rfl (by kernel_rfl) trivial (fun hHeld => ?_); refine with_tabW spec_l12Free.tab4 spec_l12Free.bits4 (fun HT_ HW_ => ?_)
    generalize wr.drew = w8 at HB hHeld ⊢
    refine zP 0 16 (bl 22 1) HT_ ?_
    refine zP 1 17 (bl 22 3) HT_ ?_
    refine zP 2 18 (bl 22 7) HT_ ?_
    refine zP 3 19 (bl 22 15) HT_ ?_
    refine zO 4 20 (bl 22 31) HT_ ?_
    refine zO 5 21 (bl 22 63) HT_ ?_
    refine zO 6 22 (bl 22 127) HT_ ?_
    refine zO 7 23 (bl 22 255) HT_ ?_
    refine zO 8 24 (bl 22 511) HT_ ?_
    refine zP 9 25 (bl 22 1023) HT_ ?_
    refine zP 10 26 (bl 22 2047) HT_ ?_
    refine zO 11 27 (bl 22 4095) HT_ ?_
    refine zO 12 28 (bl 22 8191) HT_ ?_
    refine zO 13 29 (bl 22 16383) HT_ ?_
    refine zO 14 30 (bl 22 32767) HT_ ?_
    refine zO 15 31 (bl 22 65535) HT_ ?_
    refine zO 16 32 (bl 22 131071) HT_ ?_
    refine zO 17 33 (bl 22 262143) HT_ ?_
    refine zO 18 34 (bl 22 524287) HT_ ?_
    refine zO 19 35 (bl 22 1048575) HT_ ?_
    refine zO 20 36 (bl 22 2097151) HT_ ?_
    refine zP 21 37 (bl 22 4194303) HT_ ?_
    refine done_ (done_of HT_.out (by kernel_rfl)) ?_
    try go_wp2
    go_meet
    case rel => exact ⟨_, (true), zR, H', ⟨by have := M0.out; first | omega | exact Nat.le_refl _⟩, ⟨zB⟩⟩
  rw [if_neg c7] at H
  have N0 := beq_eq_false_iff_ne.mpr c7
  have E2 := bne_iff_ne.mpr c7
  (first | rw [N0] | (simp only [i64_w, i32_w]; rw [N0]) | skip)
  by_cases c9 : 0 ≤ a
  rotate_left
  · rw [if_neg c9] at H
    exact absurd H (by simp)
  rw [if_pos c9] at H
  have d3 := z1 c9
  clear c9
  by_cases b2 : a < (T.length : Int)
  rotate_left
  · rw [if_neg b2] at H
    exact absurd H (by simp)
  rw [if_pos b2] at H
  have M2 := z1 b2
  clear b2
  by_cases m1 : (rd T a) < 0
  · rw [if_pos m1] at H
    have n2 := z1 m1
    clear m1
    have H' := zK H
    clear H
    try go_wp2
    have e0 := zK (ze HB.out)
    revert e0
    clear HB
    intro HB
    have D0 : 0 ≤ (a : Int) := z3
    have E0 : a < (T.length : Int) := z3
    obtain ⟨N1, i2, E⟩ := Kd.at_int i1.out a D0 E0
    have F0 := E
    cases i2
    (try replace E := zX HB E)
    replace D0 := eq_true D0
    replace E0 := eq_true E0
    refine start_ (n := 22) (S := fun w' => w'.cell? (N1.add (a).toNat) = some (.int .i64 (rd T a))) (ds := []) (bl 22 0) (by kernel_rfl) rfl (by kernel_rfl) ((zX HB F0:)) (fun hHeld => ?_); refine with_tabW spec_l12Free.tab4 spec_l12Free.bits4 (fun HT_ HW_ => ?_)
    generalize wr.drew = D3 at HB E hHeld ⊢
    refine zP 0 16 (bl 22 1) HT_ ?_
    refine zP 1 17 (bl 22 3) HT_ ?_
    refine zP 2 18 (bl 22 7) HT_ ?_
    refine zP 3 19 (bl 22 15) HT_ ?_
    refine zP 4 20 (bl 22 31) HT_ ?_
    refine zP 5 21 (bl 22 63) HT_ ?_
    refine zP 6 22 (bl 22 127) HT_ ?_
    refine zT 7 23 (bl 22 255) rfl rfl HT_ HW_ hHeld (by intro w' s0; go_simp; with_reducible rfl) ?_
    refine zP 8 24 (bl 22 511) HT_ ?_
    refine zP 9 25 (bl 22 1023) HT_ ?_
    refine zP 10 26 (bl 22 2047) HT_ ?_
    refine zO 11 27 (bl 22 4095) HT_ ?_
    refine zO 12 28 (bl 22 8191) HT_ ?_
    refine zO 13 29 (bl 22 16383) HT_ ?_
    refine zO 14 30 (bl 22 32767) HT_ ?_
    refine zO 15 31 (bl 22 65535) HT_ ?_
    refine zO 16 32 (bl 22 131071) HT_ ?_
    refine zO 17 33 (bl 22 262143) HT_ ?_
    refine zO 18 34 (bl 22 524287) HT_ ?_
    refine zO 19 35 (bl 22 1048575) HT_ ?_
    refine zO 20 36 (bl 22 2097151) HT_ ?_
    refine zP 21 37 (bl 22 4194303) HT_ ?_
    refine done_ (done_of HT_.out (by kernel_rfl)) ?_
    try go_wp2
    go_meet
    case rel => exact ⟨_, (true), zR, H', ⟨by have := M0.out; first | omega | exact Nat.le_refl _⟩, ⟨zB⟩⟩
  rw [if_neg m1] at H
  have n2 := z2 m1
  clear m1
  by_cases c2 : 0 ≤ u
  rotate_left
  · rw [if_neg c2] at H
    exact absurd H (by simp)
  rw [if_pos c2] at H
  have N2 := z1 c2
  clear c2
  by_cases d2 : u < (q.length : Int)
  rotate_left
  · rw [if_neg d2] at H
    exact absurd H (by simp)
  rw [if_pos d2] at H
  have O2 := z1 d2
  clear d2
  replace H := z6 H
  obtain ⟨G2, I2, H⟩ := H
  have n3 := zK I2
  clear I2
  have H' := zK H
  clear H
  try go_wp2
  have e0 := zK (ze HB.out)
  revert e0
  clear HB
  intro HB
  have D0 : 0 ≤ (a : Int) := z3
  have E0 : a < (T.length : Int) := z3
  obtain ⟨N1, i2, E⟩ := Kd.at_int i1.out a D0 E0
  have F0 := E
  cases i2
  (try replace E := zX HB E)
  replace D0 := eq_true D0
  replace E0 := eq_true E0
  have O1 : 0 ≤ (u : Int) := z3
  have R1 : u < (q.length : Int) := z3
  obtain ⟨D, e3, g0, i0, j0, m0⟩ := at_T52 g1.out u O1 R1
  have y1 := m0
  have B1 := j0
  have C1 := i0
  have D1 := g0
  cases e3
  (try replace g0 := zX HB g0)
  (try replace i0 := zX HB i0)
  (try replace j0 := zX HB j0)
  (try replace m0 := zX HB m0)
  replace O1 := eq_true O1
  replace R1 := eq_true R1
  have S1 : 0 ≤ (a : Int) := z3
  have T1 : a < (q.length : Int) := z3
  obtain ⟨R2, g3, n0, o0, p0, q0⟩ := at_T52 g1.out a S1 T1
  have E1 := q0
  have F1 := p0
  have G1 := o0
  have I1 := n0
  obtain rfl : D = R2 := (by injection g3)
  (try replace n0 := zX HB n0)
  (try replace o0 := zX HB o0)
  (try replace p0 := zX HB p0)
  (try replace q0 := zX HB q0)
  replace S1 := eq_true S1
  replace T1 := eq_true T1
  refine start_ (n := 22) (S := fun w' => w'.cell? (N1.add (a).toNat) = some (.int .i64 (rd T a)) ∧ w'.cell? (D.add ((u).toNat * 4)) = some (.int .i64 ((rd_T52 q u).f0)) ∧ w'.cell? ⟨(D.add ((u).toNat * 4)).block, (D.add ((u).toNat * 4)).off + 1, none⟩ = some (.int .i64 ((rd_T52 q u).f1)) ∧ w'.cell? ⟨(D.add ((u).toNat * 4)).block, (D.add ((u).toNat * 4)).off + 2, none⟩ = some (.int .i64 ((rd_T52 q u).f2)) ∧ w'.cell? ⟨(D.add ((u).toNat * 4)).block, (D.add ((u).toNat * 4)).off + 3, none⟩ = some (.int .i64 ((rd_T52 q u).f3)) ∧ w'.cell? (D.add ((a).toNat * 4)) = some (.int .i64 ((rd_T52 q a).f0)) ∧ w'.cell? ⟨(D.add ((a).toNat * 4)).block, (D.add ((a).toNat * 4)).off + 1, none⟩ = some (.int .i64 ((rd_T52 q a).f1)) ∧ w'.cell? ⟨(D.add ((a).toNat * 4)).block, (D.add ((a).toNat * 4)).off + 2, none⟩ = some (.int .i64 ((rd_T52 q a).f2)) ∧ w'.cell? ⟨(D.add ((a).toNat * 4)).block, (D.add ((a).toNat * 4)).off + 3, none⟩ = some (.int .i64 ((rd_T52 q a).f3))) (ds := []) (bl 22 0) (by kernel_rfl) rfl (by kernel_rfl) ⟨(zX HB F0:), (zX HB D1:), (zX HB C1:), (zX HB B1:), (zX HB y1:), (zX HB I1:), (zX HB G1:), (zX HB F1:), (zX HB E1:)⟩ (fun hHeld => ?_); refine with_tabW spec_l12Free.tab4 spec_l12Free.bits4 (fun HT_ HW_ => ?_)
  generalize wr.drew = E3 at HB E g0 i0 j0 m0 n0 o0 p0 q0 hHeld ⊢
  refine zP 0 16 (bl 22 1) HT_ ?_
  refine zP 1 17 (bl 22 3) HT_ ?_
  refine zP 2 18 (bl 22 7) HT_ ?_
  refine zP 3 19 (bl 22 15) HT_ ?_
  refine zP 4 20 (bl 22 31) HT_ ?_
  refine zP 5 21 (bl 22 63) HT_ ?_
  refine zP 6 22 (bl 22 127) HT_ ?_
  refine zT 7 23 (bl 22 255) rfl rfl HT_ HW_ hHeld (by rintro w' ⟨s0, s1, s2, s3, s4, s5, s6, s7, s8⟩; go_simp; with_reducible rfl) ?_
  refine zP 8 24 (bl 22 511) HT_ ?_
  refine zP 9 25 (bl 22 1023) HT_ ?_
  refine zP 10 26 (bl 22 2047) HT_ ?_
  refine zP 11 27 (bl 22 4095) HT_ ?_
  refine zP 12 28 (bl 22 8191) HT_ ?_
  refine zP 13 29 (bl 22 16383) HT_ ?_
  refine zP 15 31 (bl 22 49151) HT_ ?_
  refine zP 16 32 (bl 22 114687) HT_ ?_
  refine zP 17 33 (bl 22 245759) HT_ ?_
  refine zT 14 30 (bl 22 262143) rfl rfl HT_ HW_ hHeld (by rintro w' ⟨s0, s1, s2, s3, s4, s5, s6, s7, s8⟩; go_simp; with_reducible rfl) ?_
  refine zT 18 34 (bl 22 524287) rfl rfl HT_ HW_ hHeld (by rintro w' ⟨s0, s1, s2, s3, s4, s5, s6, s7, s8⟩; go_simp; with_reducible rfl) ?_
  refine one_ (i := 19) (N := some 35) (bl 22 1048575) rfl rfl (one_of HT_.out (by kernel_rfl)) (by decide) (fun K hK => ?_)
  refine goes_ Try.func64 (by kernel_rfl) rfl #[.agg #[.int .i64 ((rd_T52 q u).f0), .int .i64 ((rd_T52 q u).f1), .int .i64 ((rd_T52 q u).f2), .int .i64 ((rd_T52 q u).f3)], .agg #[.int .i64 ((rd_T52 q a).f0), .int .i64 ((rd_T52 q a).f1), .int .i64 ((rd_T52 q a).f2), .int .i64 ((rd_T52 q a).f3)]] (by rfl) rfl rfl zL ?_
  with_reducible refine (spec_l12Meet.calls ((rd_T52 q u).f0) ((rd_T52 q u).f1) ((rd_T52 q u).f2) ((rd_T52 q u).f3) ((rd_T52 q a).f0) ((rd_T52 q a).f1) ((rd_T52 q a).f2) ((rd_T52 q a).f3) G2 _ n3.out).mono ?_
  rintro e F3 ⟨rfl, hb⟩
  refine ⟨_, rfl, ?_⟩
  have e0 := z8 hb
  revert e0
  clear HB
  intro HB
  (try clear hb)
  (try clear hb2)
  (try clear hk)
  (try clear hi)
  refine hK.out _ _ ⟨(zX HB F0:), (zX HB D1:), (zX HB C1:), (zX HB B1:), (zX HB y1:), (zX HB I1:), (zX HB G1:), (zX HB F1:), (zX HB E1:)⟩ (fun hHeld => ?_)
  clear hK K
  refine zU 35 ?_
  refine zP 20 36 (bl 22 2097151) HT_ ?_
  refine zP 21 37 (bl 22 4194303) HT_ ?_
  refine done_ (done_of HT_.out (by kernel_rfl)) ?_
  try go_wp2
  go_meet
  case rel => exact ⟨_, (!G2), zR, H', ⟨by have := M0.out; first | omega | exact Nat.le_refl _⟩, ⟨zB⟩⟩
 case rest =>
  clear D2
  try clear c1
  try clear p2
  try clear q2
  try clear G3
  try clear c4
  try clear c5
  try clear C2
  try clear c6
  try clear c7
  try clear N0
  try clear E2
  try clear c9
  try clear d3
  try clear b2
  try clear M2
  try clear m1
  try clear n2
  try clear c2
  try clear N2
  try clear d2
  try clear O2
  try clear E
  try clear g0
  try clear i0
  try clear j0
  try clear m0
  try clear n0
  try clear o0
  try clear p0
  try clear q0
  try clear p2
  try clear D0
  try clear O1
  try clear S1
  try clear E0
  try clear R1
  try clear T1
  obtain ⟨kq, e1, rfl, HA, J1, HB⟩ := hcut
  cases kq with
  | zero => exact absurd HA.out (by simp [spec_l12Free.j1])
  | succ J2 =>
   have H := HA.out
   clear HA
   simp only [spec_l12Free.j1] at H
   by_cases o2 : e1 = true
   · subst o2
     rw [if_pos rfl] at H
     have H' := zK H
     clear H
     go_wp2
     go_roundg J2
     case measure => have := M0.out; have := J1.out; omega
     case rel => exact ⟨(wrap64 (a + 1)), zR, H', ⟨by have := M0.out; have := J1.out; omega⟩, ⟨zB⟩⟩
   replace o2 := Bool.eq_false_iff.mpr o2
   subst o2
   rw [if_neg (show ¬ (false = true) by decide)] at H
   by_cases t2 : 0 ≤ a
   rotate_left
   · rw [if_neg t2] at H
     exact absurd H (by simp)
   rw [if_pos t2] at H
   have o3 := z1 t2
   clear t2
   by_cases x2 : a < (T.length : Int)
   rotate_left
   · rw [if_neg x2] at H
     exact absurd H (by simp)
   rw [if_pos x2] at H
   have p3 := z1 x2
   clear x2
   by_cases y2 : a < (q.length : Int)
   rotate_left
   · rw [if_neg y2] at H
     exact absurd H (by simp)
   rw [if_pos y2] at H
   have q3 := z1 y2
   clear y2
   by_cases L1 : a3 < (wrap64 ((rd T a) + ((rd_T52 q a).f1)))
   rotate_left
   · rw [if_neg L1] at H
     have T2 := z2 L1
     clear L1
     have H' := zK H
     clear H
     try go_wp2
     have e0 := zK (ze HB.out)
     revert e0
     clear HB
     intro HB
     have X : 0 ≤ (a : Int) := z3
     have a0 : a < (T.length : Int) := z3
     obtain ⟨U, n1, x⟩ := Kd.at_int i1.out a X a0
     have t0 := x
     cases n1
     (try replace x := zX HB x)
     replace X := eq_true X
     replace a0 := eq_true a0
     have b0 : 0 ≤ (a : Int) := z3
     have d0 : a < (q.length : Int) := z3
     obtain ⟨l, o1, y, z, A, B⟩ := at_T52 g1.out a b0 d0
     have x0 := B
     have y0 := A
     have B0 := z
     have C0 := y
     cases o1
     (try replace y := zX HB y)
     (try replace z := zX HB z)
     (try replace A := zX HB A)
     (try replace B := zX HB B)
     replace b0 := eq_true b0
     replace d0 := eq_true d0
     refine start_ (n := 26) (S := fun w' => w'.cell? (U.add (a).toNat) = some (.int .i64 (rd T a)) ∧ w'.cell? (l.add ((a).toNat * 4)) = some (.int .i64 ((rd_T52 q a).f0)) ∧ w'.cell? ⟨(l.add ((a).toNat * 4)).block, (l.add ((a).toNat * 4)).off + 1, none⟩ = some (.int .i64 ((rd_T52 q a).f1)) ∧ w'.cell? ⟨(l.add ((a).toNat * 4)).block, (l.add ((a).toNat * 4)).off + 2, none⟩ = some (.int .i64 ((rd_T52 q a).f2)) ∧ w'.cell? ⟨(l.add ((a).toNat * 4)).block, (l.add ((a).toNat * 4)).off + 3, none⟩ = some (.int .i64 ((rd_T52 q a).f3))) (ds := []) (bl 26 0) (by kernel_rfl) rfl (by kernel_rfl) ⟨(zX HB t0:), (zX HB C0:), (zX HB B0:), (zX HB y0:), (zX HB x0:)⟩ (fun hHeld => ?_); refine with_tabW spec_l12Free.tab5 spec_l12Free.bits5 (fun HT_ HW_ => ?_)
     generalize wc.drew = I3 at HB x y z A B hHeld ⊢
     refine zP 0 38 (bl 26 1) HT_ ?_
     refine zP 1 39 (bl 26 3) HT_ ?_
     refine zP 2 40 (bl 26 7) HT_ ?_
     refine zP 3 41 (bl 26 15) HT_ ?_
     refine zP 5 43 (bl 26 47) HT_ ?_
     refine zP 6 44 (bl 26 111) HT_ ?_
     refine zP 7 45 (bl 26 239) HT_ ?_
     refine zP 8 46 (bl 26 495) HT_ ?_
     refine zT 4 42 (bl 26 511) rfl rfl HT_ HW_ hHeld (by rintro w' ⟨s0, s1, s2, s3, s4⟩; go_simp; with_reducible rfl) ?_
     refine zT 9 47 (bl 26 1023) rfl rfl HT_ HW_ hHeld (by rintro w' ⟨s0, s1, s2, s3, s4⟩; go_simp; with_reducible rfl) ?_
     refine zP 10 48 (bl 26 2047) HT_ ?_
     refine zP 11 49 (bl 26 4095) HT_ ?_
     refine zP 12 50 (bl 26 8191) HT_ ?_
     refine zO 13 51 (bl 26 16383) HT_ ?_
     refine zO 14 52 (bl 26 32767) HT_ ?_
     refine zO 15 53 (bl 26 65535) HT_ ?_
     refine zO 16 54 (bl 26 131071) HT_ ?_
     refine zO 17 55 (bl 26 262143) HT_ ?_
     refine zO 18 56 (bl 26 524287) HT_ ?_
     refine zO 19 57 (bl 26 1048575) HT_ ?_
     refine zO 20 58 (bl 26 2097151) HT_ ?_
     refine zO 21 59 (bl 26 4194303) HT_ ?_
     refine zO 22 60 (bl 26 8388607) HT_ ?_
     refine zO 23 61 (bl 26 16777215) HT_ ?_
     refine zO 24 62 (bl 26 33554431) HT_ ?_
     refine zP 25 63 (bl 26 67108863) HT_ ?_
     refine done_ (done_of HT_.out (by kernel_rfl)) ?_
     try go_wp2
     go_roundg J2
     case measure => have := M0.out; have := J1.out; omega
     case rel => exact ⟨(wrap64 (a + 1)), zR, H', ⟨by have := M0.out; have := J1.out; omega⟩, ⟨zB⟩⟩
   rw [if_pos L1] at H
   have T2 := z1 L1
   clear L1
   by_cases A2 : 0 ≤ u
   rotate_left
   · rw [if_neg A2] at H
     exact absurd H (by simp)
   rw [if_pos A2] at H
   have t3 := z1 A2
   clear A2
   by_cases B2 : u < (q.length : Int)
   rotate_left
   · rw [if_neg B2] at H
     exact absurd H (by simp)
   rw [if_pos B2] at H
   have x3 := z1 B2
   clear B2
   by_cases M1 : (rd T a) < (wrap64 (a3 + ((rd_T52 q u).f1)))
   · rw [if_pos M1] at H
     have U2 := z1 M1
     clear M1
     obtain rfl := z5 H
     try go_wp2
     have e0 := zK (ze HB.out)
     revert e0
     clear HB
     intro HB
     have X : 0 ≤ (a : Int) := z3
     have a0 : a < (T.length : Int) := z3
     obtain ⟨U, n1, x⟩ := Kd.at_int i1.out a X a0
     have t0 := x
     cases n1
     (try replace x := zX HB x)
     replace X := eq_true X
     replace a0 := eq_true a0
     have b0 : 0 ≤ (a : Int) := z3
     have d0 : a < (q.length : Int) := z3
     obtain ⟨l, o1, y, z, A, B⟩ := at_T52 g1.out a b0 d0
     have x0 := B
     have y0 := A
     have B0 := z
     have C0 := y
     cases o1
     (try replace y := zX HB y)
     (try replace z := zX HB z)
     (try replace A := zX HB A)
     (try replace B := zX HB B)
     replace b0 := eq_true b0
     replace d0 := eq_true d0
     have G0 : 0 ≤ (a : Int) := z3
     have I0 : a < (T.length : Int) := z3
     obtain ⟨U1, j2, I⟩ := Kd.at_int i1.out a G0 I0
     have R0 := I
     obtain rfl : U = U1 := (by injection j2)
     (try replace I := zX HB I)
     replace G0 := eq_true G0
     replace I0 := eq_true I0
     have J0 : 0 ≤ (u : Int) := z3
     have L0 : u < (q.length : Int) := z3
     obtain ⟨V1, l2, J, L, M, O⟩ := at_T52 g1.out u J0 L0
     have S0 := O
     have T0 := M
     have U0 := L
     have V0 := J
     obtain rfl : l = V1 := (by injection l2)
     (try replace J := zX HB J)
     (try replace L := zX HB L)
     (try replace M := zX HB M)
     (try replace O := zX HB O)
     replace J0 := eq_true J0
     replace L0 := eq_true L0
     refine start_ (n := 26) (S := fun w' => w'.cell? (U.add (a).toNat) = some (.int .i64 (rd T a)) ∧ w'.cell? (l.add ((a).toNat * 4)) = some (.int .i64 ((rd_T52 q a).f0)) ∧ w'.cell? ⟨(l.add ((a).toNat * 4)).block, (l.add ((a).toNat * 4)).off + 1, none⟩ = some (.int .i64 ((rd_T52 q a).f1)) ∧ w'.cell? ⟨(l.add ((a).toNat * 4)).block, (l.add ((a).toNat * 4)).off + 2, none⟩ = some (.int .i64 ((rd_T52 q a).f2)) ∧ w'.cell? ⟨(l.add ((a).toNat * 4)).block, (l.add ((a).toNat * 4)).off + 3, none⟩ = some (.int .i64 ((rd_T52 q a).f3)) ∧ w'.cell? (U.add (a).toNat) = some (.int .i64 (rd T a)) ∧ w'.cell? (l.add ((u).toNat * 4)) = some (.int .i64 ((rd_T52 q u).f0)) ∧ w'.cell? ⟨(l.add ((u).toNat * 4)).block, (l.add ((u).toNat * 4)).off + 1, none⟩ = some (.int .i64 ((rd_T52 q u).f1)) ∧ w'.cell? ⟨(l.add ((u).toNat * 4)).block, (l.add ((u).toNat * 4)).off + 2, none⟩ = some (.int .i64 ((rd_T52 q u).f2)) ∧ w'.cell? ⟨(l.add ((u).toNat * 4)).block, (l.add ((u).toNat * 4)).off + 3, none⟩ = some (.int .i64 ((rd_T52 q u).f3))) (ds := []) (bl 26 0) (by kernel_rfl) rfl (by kernel_rfl) ⟨(zX HB t0:), (zX HB C0:), (zX HB B0:), (zX HB y0:), (zX HB x0:), (zX HB R0:), (zX HB V0:), (zX HB U0:), (zX HB T0:), (zX HB S0:)⟩ (fun hHeld => ?_); refine with_tabW spec_l12Free.tab5 spec_l12Free.bits5 (fun HT_ HW_ => ?_)
     generalize wc.drew = J3 at HB x y z A B I J L M O hHeld ⊢
     refine zP 0 38 (bl 26 1) HT_ ?_
     refine zP 1 39 (bl 26 3) HT_ ?_
     refine zP 2 40 (bl 26 7) HT_ ?_
     refine zP 3 41 (bl 26 15) HT_ ?_
     refine zP 5 43 (bl 26 47) HT_ ?_
     refine zP 6 44 (bl 26 111) HT_ ?_
     refine zP 7 45 (bl 26 239) HT_ ?_
     refine zP 8 46 (bl 26 495) HT_ ?_
     refine zT 4 42 (bl 26 511) rfl rfl HT_ HW_ hHeld (by rintro w' ⟨s0, s1, s2, s3, s4, s5, s6, s7, s8, s9⟩; go_simp; with_reducible rfl) ?_
     refine zT 9 47 (bl 26 1023) rfl rfl HT_ HW_ hHeld (by rintro w' ⟨s0, s1, s2, s3, s4, s5, s6, s7, s8, s9⟩; go_simp; with_reducible rfl) ?_
     refine zP 10 48 (bl 26 2047) HT_ ?_
     refine zP 11 49 (bl 26 4095) HT_ ?_
     refine zP 12 50 (bl 26 8191) HT_ ?_
     refine zP 13 51 (bl 26 16383) HT_ ?_
     refine zP 14 52 (bl 26 32767) HT_ ?_
     refine zP 15 53 (bl 26 65535) HT_ ?_
     refine zP 17 55 (bl 26 196607) HT_ ?_
     refine zP 18 56 (bl 26 458751) HT_ ?_
     refine zP 19 57 (bl 26 983039) HT_ ?_
     refine zP 20 58 (bl 26 2031615) HT_ ?_
     refine zP 21 59 (bl 26 4128767) HT_ ?_
     refine zT 16 54 (bl 26 4194303) rfl rfl HT_ HW_ hHeld (by rintro w' ⟨s0, s1, s2, s3, s4, s5, s6, s7, s8, s9⟩; go_simp; with_reducible rfl) ?_
     refine zT 22 60 (bl 26 8388607) rfl rfl HT_ HW_ hHeld (by rintro w' ⟨s0, s1, s2, s3, s4, s5, s6, s7, s8, s9⟩; go_simp; with_reducible rfl) ?_
     refine zP 23 61 (bl 26 16777215) HT_ ?_
     refine zP 24 62 (bl 26 33554431) HT_ ?_
     refine zP 25 63 (bl 26 67108863) HT_ ?_
     refine done_ (done_of HT_.out (by kernel_rfl)) ?_
     try go_wp2
     go_ret
     exact ⟨zE, zB⟩
   rw [if_neg M1] at H
   have U2 := z2 M1
   clear M1
   have H' := zK H
   clear H
   try go_wp2
   have e0 := zK (ze HB.out)
   revert e0
   clear HB
   intro HB
   have X : 0 ≤ (a : Int) := z3
   have a0 : a < (T.length : Int) := z3
   obtain ⟨U, n1, x⟩ := Kd.at_int i1.out a X a0
   have t0 := x
   cases n1
   (try replace x := zX HB x)
   replace X := eq_true X
   replace a0 := eq_true a0
   have b0 : 0 ≤ (a : Int) := z3
   have d0 : a < (q.length : Int) := z3
   obtain ⟨l, o1, y, z, A, B⟩ := at_T52 g1.out a b0 d0
   have x0 := B
   have y0 := A
   have B0 := z
   have C0 := y
   cases o1
   (try replace y := zX HB y)
   (try replace z := zX HB z)
   (try replace A := zX HB A)
   (try replace B := zX HB B)
   replace b0 := eq_true b0
   replace d0 := eq_true d0
   have G0 : 0 ≤ (a : Int) := z3
   have I0 : a < (T.length : Int) := z3
   obtain ⟨U1, j2, I⟩ := Kd.at_int i1.out a G0 I0
   have R0 := I
   obtain rfl : U = U1 := (by injection j2)
   (try replace I := zX HB I)
   replace G0 := eq_true G0
   replace I0 := eq_true I0
   have J0 : 0 ≤ (u : Int) := z3
   have L0 : u < (q.length : Int) := z3
   obtain ⟨V1, l2, J, L, M, O⟩ := at_T52 g1.out u J0 L0
   have S0 := O
   have T0 := M
   have U0 := L
   have V0 := J
   obtain rfl : l = V1 := (by injection l2)
   (try replace J := zX HB J)
   (try replace L := zX HB L)
   (try replace M := zX HB M)
   (try replace O := zX HB O)
   replace J0 := eq_true J0
   replace L0 := eq_true L0
   refine start_ (n := 26) (S := fun w' => w'.cell? (U.add (a).toNat) = some (.int .i64 (rd T a)) ∧ w'.cell? (l.add ((a).toNat * 4)) = some (.int .i64 ((rd_T52 q a).f0)) ∧ w'.cell? ⟨(l.add ((a).toNat * 4)).block, (l.add ((a).toNat * 4)).off + 1, none⟩ = some (.int .i64 ((rd_T52 q a).f1)) ∧ w'.cell? ⟨(l.add ((a).toNat * 4)).block, (l.add ((a).toNat * 4)).off + 2, none⟩ = some (.int .i64 ((rd_T52 q a).f2)) ∧ w'.cell? ⟨(l.add ((a).toNat * 4)).block, (l.add ((a).toNat * 4)).off + 3, none⟩ = some (.int .i64 ((rd_T52 q a).f3)) ∧ w'.cell? (U.add (a).toNat) = some (.int .i64 (rd T a)) ∧ w'.cell? (l.add ((u).toNat * 4)) = some (.int .i64 ((rd_T52 q u).f0)) ∧ w'.cell? ⟨(l.add ((u).toNat * 4)).block, (l.add ((u).toNat * 4)).off + 1, none⟩ = some (.int .i64 ((rd_T52 q u).f1)) ∧ w'.cell? ⟨(l.add ((u).toNat * 4)).block, (l.add ((u).toNat * 4)).off + 2, none⟩ = some (.int .i64 ((rd_T52 q u).f2)) ∧ w'.cell? ⟨(l.add ((u).toNat * 4)).block, (l.add ((u).toNat * 4)).off + 3, none⟩ = some (.int .i64 ((rd_T52 q u).f3))) (ds := []) (bl 26 0) (by kernel_rfl) rfl (by kernel_rfl) ⟨(zX HB t0:), (zX HB C0:), (zX HB B0:), (zX HB y0:), (zX HB x0:), (zX HB R0:), (zX HB V0:), (zX HB U0:), (zX HB T0:), (zX HB S0:)⟩ (fun hHeld => ?_); refine with_tabW spec_l12Free.tab5 spec_l12Free.bits5 (fun HT_ HW_ => ?_)
   generalize wc.drew = L3 at HB x y z A B I J L M O hHeld ⊢
   refine zP 0 38 (bl 26 1) HT_ ?_
   refine zP 1 39 (bl 26 3) HT_ ?_
   refine zP 2 40 (bl 26 7) HT_ ?_
   refine zP 3 41 (bl 26 15) HT_ ?_
   refine zP 5 43 (bl 26 47) HT_ ?_
   refine zP 6 44 (bl 26 111) HT_ ?_
   refine zP 7 45 (bl 26 239) HT_ ?_
   refine zP 8 46 (bl 26 495) HT_ ?_
   refine zT 4 42 (bl 26 511) rfl rfl HT_ HW_ hHeld (by rintro w' ⟨s0, s1, s2, s3, s4, s5, s6, s7, s8, s9⟩; go_simp; with_reducible rfl) ?_
   refine zT 9 47 (bl 26 1023) rfl rfl HT_ HW_ hHeld (by rintro w' ⟨s0, s1, s2, s3, s4, s5, s6, s7, s8, s9⟩; go_simp; with_reducible rfl) ?_
   refine zP 10 48 (bl 26 2047) HT_ ?_
   refine zP 11 49 (bl 26 4095) HT_ ?_
   refine zP 12 50 (bl 26 8191) HT_ ?_
   refine zP 13 51 (bl 26 16383) HT_ ?_
   refine zP 14 52 (bl 26 32767) HT_ ?_
   refine zP 15 53 (bl 26 65535) HT_ ?_
   refine zP 17 55 (bl 26 196607) HT_ ?_
   refine zP 18 56 (bl 26 458751) HT_ ?_
   refine zP 19 57 (bl 26 983039) HT_ ?_
   refine zP 20 58 (bl 26 2031615) HT_ ?_
   refine zP 21 59 (bl 26 4128767) HT_ ?_
   refine zT 16 54 (bl 26 4194303) rfl rfl HT_ HW_ hHeld (by rintro w' ⟨s0, s1, s2, s3, s4, s5, s6, s7, s8, s9⟩; go_simp; with_reducible rfl) ?_
   refine zT 22 60 (bl 26 8388607) rfl rfl HT_ HW_ hHeld (by rintro w' ⟨s0, s1, s2, s3, s4, s5, s6, s7, s8, s9⟩; go_simp; with_reducible rfl) ?_
   refine zP 23 61 (bl 26 16777215) HT_ ?_
   refine zP 24 62 (bl 26 33554431) HT_ ?_
   refine zP 25 63 (bl 26 67108863) HT_ ?_
   refine done_ (done_of HT_.out (by kernel_rfl)) ?_
   try go_wp2
   go_roundg J2
   case measure => have := M0.out; have := J1.out; omega
   case rel => exact ⟨(wrap64 (a + 1)), zR, H', ⟨by have := M0.out; have := J1.out; omega⟩, ⟨zB⟩⟩
end Go.Proofs.Ytmcboiffbcnalaa.PFnExactPlanOk
