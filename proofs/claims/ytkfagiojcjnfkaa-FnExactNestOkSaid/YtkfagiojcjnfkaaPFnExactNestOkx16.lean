-- Printed out of the translation by this session's own turned copy of a printer; Lean checks it.
import Derived.Test.YtkfagiojcjnfkaaPFnExactNestOkx0
import Derived.Test.YtkfagiojcjnfkaaPFnExactNestOkx15
namespace Go.Proofs.Ytkfagiojcjnfkaa.PFnExactNestOk
open Go.RowKit Go.Proofs.YtkfagiojcjnfkaaW.PrintWords Go.Proofs.YtkfagiojcjnfkaaW.PrintLast Go.Proofs.YtkfagiojcjnfkaaW.PrintMore
attribute [local go_sem] max2_int min2_int max_two min_two max_three min_three max_four min_four   -- for this text's walks alone
set_option linter.unusedVariables false
set_option linter.unusedSimpArgs false

/-! ### laws_eqAccessS: function 194 -/
def laws_eqAccessS.l0 : Nat → List (S129) → List (S129) → Int → Option (Bool)
  | 0, _, _, _ => none
  | k + 1, x0, x1, x5 => if x5 < (x0.length : Int) then (if 0 ≤ x5 then (if x5 < (x1.length : Int) then ((laws_eqAccess.f k ((rd_T129 x0 x5).f0) ((rd_T129 x0 x5).f1) ((rd_T129 x0 x5).f2) ((rd_T129 x1 x5).f0) ((rd_T129 x1 x5).f1) ((rd_T129 x1 x5).f2)).bind fun t342 => (if t342 = true then (laws_eqAccessS.l0 k x0 x1 (wrap64 (x5 + 1))) else (some false))) else (none)) else (none)) else (some true)
def laws_eqAccessS.f (k : Nat) (l0 : List (S129)) (l1 : List (S129)) : Option (Bool) := if (l0.length : Int) = (l1.length : Int) then (laws_eqAccessS.l0 k l0 l1 0) else (some false)
theorem laws_eqAccessS.mono_l : ∀ k, (∀ y0 y1 y2, LeO (laws_eqAccessS.l0 k y0 y1 y2) (laws_eqAccessS.l0 (k + 1) y0 y1 y2))
  | 0 => fun _ _ _ r h => by simp [laws_eqAccessS.l0] at h
  | k + 1 => by
    have ih0 := laws_eqAccessS.mono_l k
    · intro y0 y1 y2
      unfold laws_eqAccessS.l0
      repeat' first
      | (with_reducible exact ih0 _ _ _)
      | (with_reducible exact laws_eqAccess.mono _ _ _ _ _ _ _)
      | (with_reducible exact LeO.refl _)
      | (with_reducible exact LeO.none _)
      | (with_reducible refine LeO.ite ?_ ?_)
      | (with_reducible refine LeO.bind ?_ (fun _ => ?_))
      | exact ih0 _ _ _
      | exact laws_eqAccess.mono _ _ _ _ _ _ _
      | exact LeO.none _
      | refine LeO.ite ?_ ?_
      | refine LeO.bind ?_ (fun _ => ?_)
theorem laws_eqAccessS.mono : ∀ a0 a1 k, LeO (laws_eqAccessS.f k a0 a1) (laws_eqAccessS.f (k + 1) a0 a1) := by
  intro a0 a1 k
  have ih0 := laws_eqAccessS.mono_l k
  unfold laws_eqAccessS.f
  repeat' first
      | (with_reducible exact ih0 _ _ _)
      | (with_reducible exact laws_eqAccess.mono _ _ _ _ _ _ _)
      | (with_reducible exact LeO.refl _)
      | (with_reducible exact LeO.none _)
      | (with_reducible refine LeO.ite ?_ ?_)
      | (with_reducible refine LeO.bind ?_ (fun _ => ?_))
      | exact ih0 _ _ _
      | exact laws_eqAccess.mono _ _ _ _ _ _ _
      | exact LeO.none _
      | refine LeO.ite ?_ ?_
      | refine LeO.bind ?_ (fun _ => ?_)
def laws_eqAccessS.T6 : Bool × List (List Nat × List Nat) := (true, [([], []), ([], []), ([0, 1], [0, 1]), ([2], [2]), ([], []), ([], []), ([4, 5], [4, 5]), ([6], [6]), ([3, 7], [3, 7]), ([8], [8])])
def laws_eqAccessS.B6 : List Nat := [0, 0, 3, 7, 0, 0, 48, 112, 255, 511]
theorem laws_eqAccessS.tab6 : rtab .any (opsOf Try.f194 6) = laws_eqAccessS.T6 := by kernel_rfl
theorem laws_eqAccessS.bits6 : waitsOk laws_eqAccessS.T6.2 laws_eqAccessS.B6 = true := by kernel_rfl
set_option maxHeartbeats 8000000 in
set_option maxRecDepth 100000 in
theorem laws_eqAccessS.calls (k : Nat) (A0 : Option Addr) (c0 : Nat) (l0 : List (S129)) (A1 : Option Addr) (c1 : Nat) (l1 : List (S129)) (r : Bool) (w : World) (hr0 : Kd.C k129 w A0 l0.length l0) (hc0 : l0.length ≤ c0) (hr1 : Kd.C k129 w A1 l1.length l1) (hc1 : l1.length ≤ c1) (h : laws_eqAccessS.f k l0 l1 = some r) :
    Calls Try.prog 194 #[.slice A0 l0.length c0, .slice A1 l1.length c1] w fun e w' => e = .returned (.bool r) ∧ Below w.heap.size w w' := by
  have hu129 := Try.underlying129
  have HR0 := zK hr0
  have HC0 := zK hc0
  clear hr0 hc0
  have HR1 := zK hr1
  have HC1 := zK hc1
  clear hr1 hc1
  have HB := zK (Below.refl w.heap.size w)
  have H : (if (l0.length : Int) = (l1.length : Int) then (laws_eqAccessS.l0 k l0 l1 0) else (some false)) = some r := h
  clear h
  by_cases c3 : (l0.length : Int) = (l1.length : Int)
  rotate_left
  · rw [if_neg c3] at H
    have c3b0 : ((l0.length : Int) == (l1.length : Int)) = false := beq_eq_false_iff_ne.mpr c3
    have c3b1 : ((l0.length : Int) != (l1.length : Int)) = true := bne_iff_ne.mpr c3
    have c3b2 : (l0.length == l1.length) = false := by first | simpa using c3 | (simp at c3 ⊢; omega)
    obtain rfl := Option.some.inj H
    go_enter Try.func194, Try.ntmps194
    go_wp2
    go_ret
    exact ⟨zE, zB⟩
  rw [if_pos c3] at H
  have c3b0 : ((l0.length : Int) == (l1.length : Int)) = true := beq_iff_eq.mpr c3
  have c3b1 : ((l0.length : Int) != (l1.length : Int)) = false := bne_eq_false_iff_eq.mpr c3
  have c3b2 : (l0.length == l1.length) = true := by first | simpa using c3 | (simp at c3 ⊢; omega)
  clear c3
  have H' := zK H
  clear H
  go_enter Try.func194, Try.ntmps194
  go_wp2
  go_loopg [5] k (fun kq v5 w' => ∃ (x5_1 : Int), v5 = .int .i64 x5_1 ∧ Aside0 (laws_eqAccessS.l0 kq l0 l1 x5_1 = some r) ∧ Aside0 (kq ≤ k) ∧ Aside0 (Below w.heap.size w w'))
  case atStart => exact ⟨(0), zR, H', ⟨Nat.le_refl _⟩, ⟨zB⟩⟩
  clear H'
  try clear c1
  try clear p2
  try clear c3
  try clear c3b0
  try clear c3b1
  try clear c3b2
  obtain ⟨x5_1, rfl, HA, HK1, HB⟩ := hrel
  rcases gk with _ | k1
  · exact absurd HA.out (by simp [laws_eqAccessS.l0])
  have H := HA.out
  clear HA
  simp only [laws_eqAccessS.l0] at H
  by_cases c4 : x5_1 < (l0.length : Int)
  rotate_left
  · rw [if_neg c4] at H
    have c4b0 : decide (x5_1 < (l0.length : Int)) = false := decide_eq_false c4
    clear c4
    obtain rfl := Option.some.inj H
    go_wp2
    go_ret
    exact ⟨zE, zB⟩
  rw [if_pos c4] at H
  have c4b0 : decide (x5_1 < (l0.length : Int)) = true := decide_eq_true c4
  clear c4
  by_cases c5 : 0 ≤ x5_1
  rotate_left
  · rw [if_neg c5] at H
    exact absurd H (by simp)
  rw [if_pos c5] at H
  have c5b0 : decide (0 ≤ x5_1) = true := decide_eq_true c5
  clear c5
  by_cases c6 : x5_1 < (l1.length : Int)
  rotate_left
  · rw [if_neg c6] at H
    exact absurd H (by simp)
  rw [if_pos c6] at H
  have c6b0 : decide (x5_1 < (l1.length : Int)) = true := decide_eq_true c6
  clear c6
  replace H := Option.bind_eq_some_iff.mp H
  obtain ⟨t342, A70, H⟩ := H
  replace H : (if t342 = true then (laws_eqAccessS.l0 k1 l0 l1 (wrap64 (x5_1 + 1))) else (some false)) = some r := H
  have A7 := zK A70
  clear A70
  by_cases c8 : t342 = true
  rotate_left
  · replace c8 := Bool.eq_false_iff.mpr c8
    subst c8
    have H1 : (some false) = some r := by rw [if_neg (show ¬ (false = true) by decide)] at H; exact H
    clear H
    have H := H1
    clear H1
    obtain rfl := Option.some.inj H
    try go_wp2
    have n0_ := zK (ze HB.out)
    clear HB
    have HB := n0_
    clear n0_
    have p340 : 0 ≤ (x5_1 : Int) := of_decide_eq_true zA
    have q340 : x5_1 < (l0.length : Int) := of_decide_eq_true zA
    obtain ⟨ad340, A340_2, c340_2, e340, hx340_0, hx340_1, hx340_2, hl340_2, hi340_2⟩ := at_T129 HR0.out x5_1 p340 q340
    have hw340_2 := hx340_2
    have hw340_1 := hx340_1
    have hw340_0 := hx340_0
    cases e340
    (try replace hx340_0 := zX HB hx340_0)
    (try replace hx340_1 := zX HB hx340_1)
    (try replace hx340_2 := zX HB hx340_2)
    have HR340_2 := zK hi340_2
    have HC340_2 := zK hl340_2
    clear hi340_2 hl340_2
    replace p340 := eq_true p340
    replace q340 := eq_true q340
    have p341 : 0 ≤ (x5_1 : Int) := of_decide_eq_true zA
    have q341 : x5_1 < (l1.length : Int) := of_decide_eq_true zA
    obtain ⟨ad341, A341_2, c341_2, e341, hx341_0, hx341_1, hx341_2, hl341_2, hi341_2⟩ := at_T129 HR1.out x5_1 p341 q341
    have hw341_2 := hx341_2
    have hw341_1 := hx341_1
    have hw341_0 := hx341_0
    cases e341
    (try replace hx341_0 := zX HB hx341_0)
    (try replace hx341_1 := zX HB hx341_1)
    (try replace hx341_2 := zX HB hx341_2)
    have HR341_2 := zK hi341_2
    have HC341_2 := zK hl341_2
    clear hi341_2 hl341_2
    replace p341 := eq_true p341
    replace q341 := eq_true q341
    refine start_ (n := 10) (S := fun w' => w'.cell? (ad340.add ((x5_1).toNat * 3)) = some (.int .i64 ((rd_T129 l0 x5_1).f0)) ∧ w'.cell? ⟨(ad340.add ((x5_1).toNat * 3)).block, (ad340.add ((x5_1).toNat * 3)).off + 1, none⟩ = some (.int .i64 ((rd_T129 l0 x5_1).f1)) ∧ w'.cell? ⟨(ad340.add ((x5_1).toNat * 3)).block, (ad340.add ((x5_1).toNat * 3)).off + 2, none⟩ = some (.slice A340_2 ((rd_T129 l0 x5_1).f2).length c340_2) ∧ w'.cell? (ad341.add ((x5_1).toNat * 3)) = some (.int .i64 ((rd_T129 l1 x5_1).f0)) ∧ w'.cell? ⟨(ad341.add ((x5_1).toNat * 3)).block, (ad341.add ((x5_1).toNat * 3)).off + 1, none⟩ = some (.int .i64 ((rd_T129 l1 x5_1).f1)) ∧ w'.cell? ⟨(ad341.add ((x5_1).toNat * 3)).block, (ad341.add ((x5_1).toNat * 3)).off + 2, none⟩ = some (.slice A341_2 ((rd_T129 l1 x5_1).f2).length c341_2)) (ds := []) (bl 10 0) (by kernel_rfl) rfl (by kernel_rfl) ⟨(zX HB hw340_0), (zX HB hw340_1), (zX HB hw340_2), (zX HB hw341_0), (zX HB hw341_1), (zX HB hw341_2)⟩ (fun hHeld => ?_); refine with_tabW laws_eqAccessS.tab6 laws_eqAccessS.bits6 (fun HT_ HW_ => ?_)
    generalize wr.drew = w11 at HB HR340_2 HR341_2 hx340_0 hx340_1 hx340_2 hx341_0 hx341_1 hx341_2 hHeld ⊢
    refine zP 0 17 (bl 10 1) HT_ ?_
    refine zP 1 18 (bl 10 3) HT_ ?_
    refine zP 2 19 (bl 10 7) HT_ ?_
    refine zP 4 21 (bl 10 23) HT_ ?_
    refine zP 5 22 (bl 10 55) HT_ ?_
    refine zP 6 23 (bl 10 119) HT_ ?_
    refine zT 3 20 (bl 10 127) rfl rfl HT_ HW_ hHeld (by rintro w' ⟨s0, s1, s2, s3, s4, s5⟩; go_simp; with_reducible rfl) ?_
    refine zT 7 24 (bl 10 255) rfl rfl HT_ HW_ hHeld (by rintro w' ⟨s0, s1, s2, s3, s4, s5⟩; go_simp; with_reducible rfl) ?_
    refine one_ (i := 8) (N := some 25) (bl 10 511) rfl rfl (one_of HT_.out (by kernel_rfl)) (by decide) (fun K hK => ?_)
    refine goes_ Try.func195 (by kernel_rfl) rfl #[.agg #[.int .i64 ((rd_T129 l0 x5_1).f0), .int .i64 ((rd_T129 l0 x5_1).f1), .slice A340_2 ((rd_T129 l0 x5_1).f2).length c340_2], .agg #[.int .i64 ((rd_T129 l1 x5_1).f0), .int .i64 ((rd_T129 l1 x5_1).f1), .slice A341_2 ((rd_T129 l1 x5_1).f2).length c341_2]] (by rfl) rfl rfl zL ?_
    with_reducible refine (laws_eqAccess.calls k1 ((rd_T129 l0 x5_1).f0) ((rd_T129 l0 x5_1).f1) _ _ ((rd_T129 l0 x5_1).f2) ((rd_T129 l1 x5_1).f0) ((rd_T129 l1 x5_1).f1) _ _ ((rd_T129 l1 x5_1).f2) false _ ?side1 ?side2 ?side3 ?side4 A7.out).mono ?_
    (case side1 => exact zC (Kd.C_below HR340_2.out HB.out))
    (case side2 => exact HC340_2.out)
    (case side3 => exact zC (Kd.C_below HR341_2.out HB.out))
    (case side4 => exact HC341_2.out)
    rintro e w12 ⟨rfl, hb⟩
    refine ⟨_, rfl, ?_⟩
    have n0_ := zK (zp zB hb)
    clear HB
    have HB := n0_
    clear n0_
    (try clear hb)
    (try clear hb2)
    (try clear hk)
    (try clear hi)
    refine hK.out _ _ ⟨(zX HB hw340_0), (zX HB hw340_1), (zX HB hw340_2), (zX HB hw341_0), (zX HB hw341_1), (zX HB hw341_2)⟩ (fun hHeld => ?_)
    clear hK K
    refine zU 25 ?_
    refine zP 9 26 (bl 10 1023) HT_ ?_
    refine done_ (done_of HT_.out (by kernel_rfl)) ?_
    try go_wp2
    go_ret
    exact ⟨zE, zB⟩
  subst c8
  have H1 : (laws_eqAccessS.l0 k1 l0 l1 (wrap64 (x5_1 + 1))) = some r := by rw [if_pos rfl] at H; exact H
  clear H
  have H := H1
  clear H1
  have H' := zK H
  clear H
  try go_wp2
  have n0_ := zK (ze HB.out)
  clear HB
  have HB := n0_
  clear n0_
  have p340 : 0 ≤ (x5_1 : Int) := of_decide_eq_true zA
  have q340 : x5_1 < (l0.length : Int) := of_decide_eq_true zA
  obtain ⟨ad340, A340_2, c340_2, e340, hx340_0, hx340_1, hx340_2, hl340_2, hi340_2⟩ := at_T129 HR0.out x5_1 p340 q340
  have hw340_2 := hx340_2
  have hw340_1 := hx340_1
  have hw340_0 := hx340_0
  cases e340
  (try replace hx340_0 := zX HB hx340_0)
  (try replace hx340_1 := zX HB hx340_1)
  (try replace hx340_2 := zX HB hx340_2)
  have HR340_2 := zK hi340_2
  have HC340_2 := zK hl340_2
  clear hi340_2 hl340_2
  replace p340 := eq_true p340
  replace q340 := eq_true q340
  have p341 : 0 ≤ (x5_1 : Int) := of_decide_eq_true zA
  have q341 : x5_1 < (l1.length : Int) := of_decide_eq_true zA
  obtain ⟨ad341, A341_2, c341_2, e341, hx341_0, hx341_1, hx341_2, hl341_2, hi341_2⟩ := at_T129 HR1.out x5_1 p341 q341
  have hw341_2 := hx341_2
  have hw341_1 := hx341_1
  have hw341_0 := hx341_0
  cases e341
  (try replace hx341_0 := zX HB hx341_0)
  (try replace hx341_1 := zX HB hx341_1)
  (try replace hx341_2 := zX HB hx341_2)
  have HR341_2 := zK hi341_2
  have HC341_2 := zK hl341_2
  clear hi341_2 hl341_2
  replace p341 := eq_true p341
  replace q341 := eq_true q341
  refine start_ (n := 10) (S := fun w' => w'.cell? (ad340.add ((x5_1).toNat * 3)) = some (.int .i64 ((rd_T129 l0 x5_1).f0)) ∧ w'.cell? ⟨(ad340.add ((x5_1).toNat * 3)).block, (ad340.add ((x5_1).toNat * 3)).off + 1, none⟩ = some (.int .i64 ((rd_T129 l0 x5_1).f1)) ∧ w'.cell? ⟨(ad340.add ((x5_1).toNat * 3)).block, (ad340.add ((x5_1).toNat * 3)).off + 2, none⟩ = some (.slice A340_2 ((rd_T129 l0 x5_1).f2).length c340_2) ∧ w'.cell? (ad341.add ((x5_1).toNat * 3)) = some (.int .i64 ((rd_T129 l1 x5_1).f0)) ∧ w'.cell? ⟨(ad341.add ((x5_1).toNat * 3)).block, (ad341.add ((x5_1).toNat * 3)).off + 1, none⟩ = some (.int .i64 ((rd_T129 l1 x5_1).f1)) ∧ w'.cell? ⟨(ad341.add ((x5_1).toNat * 3)).block, (ad341.add ((x5_1).toNat * 3)).off + 2, none⟩ = some (.slice A341_2 ((rd_T129 l1 x5_1).f2).length c341_2)) (ds := []) (bl 10 0) (by kernel_rfl) rfl (by kernel_rfl) ⟨(zX HB hw340_0), (zX HB hw340_1), (zX HB hw340_2), (zX HB hw341_0), (zX HB hw341_1), (zX HB hw341_2)⟩ (fun hHeld => ?_); refine with_tabW laws_eqAccessS.tab6 laws_eqAccessS.bits6 (fun HT_ HW_ => ?_)
  generalize wr.drew = w9 at HB HR340_2 HR341_2 hx340_0 hx340_1 hx340_2 hx341_0 hx341_1 hx341_2 hHeld ⊢
  refine zP 0 17 (bl 10 1) HT_ ?_
  refine zP 1 18 (bl 10 3) HT_ ?_
  refine zP 2 19 (bl 10 7) HT_ ?_
  refine zP 4 21 (bl 10 23) HT_ ?_
  refine zP 5 22 (bl 10 55) HT_ ?_
  refine zP 6 23 (bl 10 119) HT_ ?_
  refine zT 3 20 (bl 10 127) rfl rfl HT_ HW_ hHeld (by rintro w' ⟨s0, s1, s2, s3, s4, s5⟩; go_simp; with_reducible rfl) ?_
  refine zT 7 24 (bl 10 255) rfl rfl HT_ HW_ hHeld (by rintro w' ⟨s0, s1, s2, s3, s4, s5⟩; go_simp; with_reducible rfl) ?_
  refine one_ (i := 8) (N := some 25) (bl 10 511) rfl rfl (one_of HT_.out (by kernel_rfl)) (by decide) (fun K hK => ?_)
  refine goes_ Try.func195 (by kernel_rfl) rfl #[.agg #[.int .i64 ((rd_T129 l0 x5_1).f0), .int .i64 ((rd_T129 l0 x5_1).f1), .slice A340_2 ((rd_T129 l0 x5_1).f2).length c340_2], .agg #[.int .i64 ((rd_T129 l1 x5_1).f0), .int .i64 ((rd_T129 l1 x5_1).f1), .slice A341_2 ((rd_T129 l1 x5_1).f2).length c341_2]] (by rfl) rfl rfl zL ?_
  with_reducible refine (laws_eqAccess.calls k1 ((rd_T129 l0 x5_1).f0) ((rd_T129 l0 x5_1).f1) _ _ ((rd_T129 l0 x5_1).f2) ((rd_T129 l1 x5_1).f0) ((rd_T129 l1 x5_1).f1) _ _ ((rd_T129 l1 x5_1).f2) true _ ?side1 ?side2 ?side3 ?side4 A7.out).mono ?_
  (case side1 => exact zC (Kd.C_below HR340_2.out HB.out))
  (case side2 => exact HC340_2.out)
  (case side3 => exact zC (Kd.C_below HR341_2.out HB.out))
  (case side4 => exact HC341_2.out)
  rintro e w10 ⟨rfl, hb⟩
  refine ⟨_, rfl, ?_⟩
  have n0_ := zK (zp zB hb)
  clear HB
  have HB := n0_
  clear n0_
  (try clear hb)
  (try clear hb2)
  (try clear hk)
  (try clear hi)
  refine hK.out _ _ ⟨(zX HB hw340_0), (zX HB hw340_1), (zX HB hw340_2), (zX HB hw341_0), (zX HB hw341_1), (zX HB hw341_2)⟩ (fun hHeld => ?_)
  clear hK K
  refine zU 25 ?_
  refine zP 9 26 (bl 10 1023) HT_ ?_
  refine done_ (done_of HT_.out (by kernel_rfl)) ?_
  try go_wp2
  go_roundg k1
  case measure => have := HK1.out; omega
  case rel => exact ⟨(wrap64 (x5_1 + 1)), zR, H', ⟨by have := HK1.out; omega⟩, ⟨zB⟩⟩

/-! ### laws_eqCalc: function 218 -/
def laws_eqCalc.f (a0_0 : Int) (a0_1 : Int) (a0_2 : Int) (a1_0 : Int) (a1_1 : Int) (a1_2 : Int) : Option (Bool) := if a0_0 = a1_0 then (if a0_1 = a1_1 then (if a0_2 = a1_2 then (some true) else (some false)) else (some false)) else (some false)
set_option maxHeartbeats 8000000 in
set_option maxRecDepth 100000 in
theorem laws_eqCalc.calls (a0_0 : Int) (a0_1 : Int) (a0_2 : Int) (a1_0 : Int) (a1_1 : Int) (a1_2 : Int) (r : Bool) (w : World) (h : laws_eqCalc.f a0_0 a0_1 a0_2 a1_0 a1_1 a1_2 = some r) :
    Calls Try.prog 218 #[.agg #[.int .i64 a0_0, .int .i64 a0_1, .int .i64 a0_2], .agg #[.int .i64 a1_0, .int .i64 a1_1, .int .i64 a1_2]] w fun e w' => e = .returned (.bool r) ∧ Below w.heap.size w w' := by
  have hu204 := Try.underlying204
  have HB := zK (Below.refl w.heap.size w)
  have H : (if a0_0 = a1_0 then (if a0_1 = a1_1 then (if a0_2 = a1_2 then (some true) else (some false)) else (some false)) else (some false)) = some r := h
  clear h
  by_cases c3 : a0_0 = a1_0
  rotate_left
  · rw [if_neg c3] at H
    have c3b0 : (a0_0 == a1_0) = false := beq_eq_false_iff_ne.mpr c3
    have c3b1 : (a0_0 != a1_0) = true := bne_iff_ne.mpr c3
    obtain rfl := Option.some.inj H
    go_enter Try.func218, Try.ntmps218
    go_wp2_with (first | ((with_reducible refine gate_dst (N := 2) rfl ?_); refine zJ 2 #[.int .i64 a0_0, .int .i64 a0_1, .int .i64 a0_2] 204 ?_; intro gb343 hg w21 hbox hb; have n0_ := zK (zp zB hb); have n1_ := zK (hbox); have n2_ := zK (zI hg zB); have n3_ := zK (zI hg zB); clear HB; have HB := n0_; have BK343 := n1_; have GW343 := n2_; have GE343 := n3_; clear n0_ n1_ n2_ n3_; clear hb hbox hg) | ((with_reducible refine gate_dst (N := 3) rfl ?_); refine zJ 3 #[.int .i64 a1_0, .int .i64 a1_1, .int .i64 a1_2] 204 ?_; intro gb344 hg w22 hbox hb; have n0_ := zK (zg (zM BK343) hb); have n1_ := zK (zp zB hb); have n2_ := zK (hbox); have n3_ := zK (zI hg zB); have n4_ := zK (zI hg zB); have n5_ := zK (zH hg (zM BK343)); have n6_ := zK (zG hg (zM BK343)); clear BK343; clear HB; have BK343 := n0_; have HB := n1_; have BK344 := n2_; have GW344 := n3_; have GE344 := n4_; have NB343_344 := n5_; have NB344_343 := n6_; clear n0_ n1_ n2_ n3_ n4_ n5_ n6_; clear hb hbox hg; have hnb23 := NB343_344.out; have hnc23 := NB344_343.out; obtain ⟨hcz24_0, hcz24_1, hcz24_2, hfz24_0, hfz24_1, hfz24_2⟩ := zc3 BK343; obtain ⟨hcz25_0, hcz25_1, hcz25_2, hfz25_0, hfz25_1, hfz25_2⟩ := zc3 BK344))
    go_ret
    exact ⟨zE, zB⟩
  rw [if_pos c3] at H
  have c3b0 : (a0_0 == a1_0) = true := beq_iff_eq.mpr c3
  have c3b1 : (a0_0 != a1_0) = false := bne_eq_false_iff_eq.mpr c3
  clear c3
  by_cases c4 : a0_1 = a1_1
  rotate_left
  · rw [if_neg c4] at H
    have c4b0 : (a0_1 == a1_1) = false := beq_eq_false_iff_ne.mpr c4
    have c4b1 : (a0_1 != a1_1) = true := bne_iff_ne.mpr c4
    obtain rfl := Option.some.inj H
    go_enter Try.func218, Try.ntmps218
    go_wp2_with (first | ((with_reducible refine gate_dst (N := 2) rfl ?_); refine zJ 2 #[.int .i64 a0_0, .int .i64 a0_1, .int .i64 a0_2] 204 ?_; intro gb343 hg w16 hbox hb; have n0_ := zK (zp zB hb); have n1_ := zK (hbox); have n2_ := zK (zI hg zB); have n3_ := zK (zI hg zB); clear HB; have HB := n0_; have BK343 := n1_; have GW343 := n2_; have GE343 := n3_; clear n0_ n1_ n2_ n3_; clear hb hbox hg) | ((with_reducible refine gate_dst (N := 3) rfl ?_); refine zJ 3 #[.int .i64 a1_0, .int .i64 a1_1, .int .i64 a1_2] 204 ?_; intro gb344 hg w17 hbox hb; have n0_ := zK (zg (zM BK343) hb); have n1_ := zK (zp zB hb); have n2_ := zK (hbox); have n3_ := zK (zI hg zB); have n4_ := zK (zI hg zB); have n5_ := zK (zH hg (zM BK343)); have n6_ := zK (zG hg (zM BK343)); clear BK343; clear HB; have BK343 := n0_; have HB := n1_; have BK344 := n2_; have GW344 := n3_; have GE344 := n4_; have NB343_344 := n5_; have NB344_343 := n6_; clear n0_ n1_ n2_ n3_ n4_ n5_ n6_; clear hb hbox hg; have hnb18 := NB343_344.out; have hnc18 := NB344_343.out; obtain ⟨hcz19_0, hcz19_1, hcz19_2, hfz19_0, hfz19_1, hfz19_2⟩ := zc3 BK343; obtain ⟨hcz20_0, hcz20_1, hcz20_2, hfz20_0, hfz20_1, hfz20_2⟩ := zc3 BK344))
    go_ret
    exact ⟨zE, zB⟩
  rw [if_pos c4] at H
  have c4b0 : (a0_1 == a1_1) = true := beq_iff_eq.mpr c4
  have c4b1 : (a0_1 != a1_1) = false := bne_eq_false_iff_eq.mpr c4
  clear c4
  by_cases c5 : a0_2 = a1_2
  · rw [if_pos c5] at H
    have c5b0 : (a0_2 == a1_2) = true := beq_iff_eq.mpr c5
    have c5b1 : (a0_2 != a1_2) = false := bne_eq_false_iff_eq.mpr c5
    clear c5
    obtain rfl := Option.some.inj H
    go_enter Try.func218, Try.ntmps218
    go_wp2_with (first | ((with_reducible refine gate_dst (N := 2) rfl ?_); refine zJ 2 #[.int .i64 a0_0, .int .i64 a0_1, .int .i64 a0_2] 204 ?_; intro gb343 hg w6 hbox hb; have n0_ := zK (zp zB hb); have n1_ := zK (hbox); have n2_ := zK (zI hg zB); have n3_ := zK (zI hg zB); clear HB; have HB := n0_; have BK343 := n1_; have GW343 := n2_; have GE343 := n3_; clear n0_ n1_ n2_ n3_; clear hb hbox hg) | ((with_reducible refine gate_dst (N := 3) rfl ?_); refine zJ 3 #[.int .i64 a1_0, .int .i64 a1_1, .int .i64 a1_2] 204 ?_; intro gb344 hg w7 hbox hb; have n0_ := zK (zg (zM BK343) hb); have n1_ := zK (zp zB hb); have n2_ := zK (hbox); have n3_ := zK (zI hg zB); have n4_ := zK (zI hg zB); have n5_ := zK (zH hg (zM BK343)); have n6_ := zK (zG hg (zM BK343)); clear BK343; clear HB; have BK343 := n0_; have HB := n1_; have BK344 := n2_; have GW344 := n3_; have GE344 := n4_; have NB343_344 := n5_; have NB344_343 := n6_; clear n0_ n1_ n2_ n3_ n4_ n5_ n6_; clear hb hbox hg; have hnb8 := NB343_344.out; have hnc8 := NB344_343.out; obtain ⟨hcz9_0, hcz9_1, hcz9_2, hfz9_0, hfz9_1, hfz9_2⟩ := zc3 BK343; obtain ⟨hcz10_0, hcz10_1, hcz10_2, hfz10_0, hfz10_1, hfz10_2⟩ := zc3 BK344))
    go_ret
    exact ⟨zE, zB⟩
  rw [if_neg c5] at H
  have c5b0 : (a0_2 == a1_2) = false := beq_eq_false_iff_ne.mpr c5
  have c5b1 : (a0_2 != a1_2) = true := bne_iff_ne.mpr c5
  obtain rfl := Option.some.inj H
  go_enter Try.func218, Try.ntmps218
  go_wp2_with (first | ((with_reducible refine gate_dst (N := 2) rfl ?_); refine zJ 2 #[.int .i64 a0_0, .int .i64 a0_1, .int .i64 a0_2] 204 ?_; intro gb343 hg w11 hbox hb; have n0_ := zK (zp zB hb); have n1_ := zK (hbox); have n2_ := zK (zI hg zB); have n3_ := zK (zI hg zB); clear HB; have HB := n0_; have BK343 := n1_; have GW343 := n2_; have GE343 := n3_; clear n0_ n1_ n2_ n3_; clear hb hbox hg) | ((with_reducible refine gate_dst (N := 3) rfl ?_); refine zJ 3 #[.int .i64 a1_0, .int .i64 a1_1, .int .i64 a1_2] 204 ?_; intro gb344 hg w12 hbox hb; have n0_ := zK (zg (zM BK343) hb); have n1_ := zK (zp zB hb); have n2_ := zK (hbox); have n3_ := zK (zI hg zB); have n4_ := zK (zI hg zB); have n5_ := zK (zH hg (zM BK343)); have n6_ := zK (zG hg (zM BK343)); clear BK343; clear HB; have BK343 := n0_; have HB := n1_; have BK344 := n2_; have GW344 := n3_; have GE344 := n4_; have NB343_344 := n5_; have NB344_343 := n6_; clear n0_ n1_ n2_ n3_ n4_ n5_ n6_; clear hb hbox hg; have hnb13 := NB343_344.out; have hnc13 := NB344_343.out; obtain ⟨hcz14_0, hcz14_1, hcz14_2, hfz14_0, hfz14_1, hfz14_2⟩ := zc3 BK343; obtain ⟨hcz15_0, hcz15_1, hcz15_2, hfz15_0, hfz15_1, hfz15_2⟩ := zc3 BK344))
  go_ret
  exact ⟨zE, zB⟩

/-! ### laws_eqCalcS: function 196 -/
def laws_eqCalcS.l0 : Nat → List (S204) → List (S204) → Int → Option (Bool)
  | 0, _, _, _ => none
  | k + 1, x0, x1, x5 => if x5 < (x0.length : Int) then (if 0 ≤ x5 then (if x5 < (x1.length : Int) then ((laws_eqCalc.f ((rd_T204 x0 x5).f0) ((rd_T204 x0 x5).f1) ((rd_T204 x0 x5).f2) ((rd_T204 x1 x5).f0) ((rd_T204 x1 x5).f1) ((rd_T204 x1 x5).f2)).bind fun t347 => (if t347 = true then (laws_eqCalcS.l0 k x0 x1 (wrap64 (x5 + 1))) else (some false))) else (none)) else (none)) else (some true)
def laws_eqCalcS.f (k : Nat) (l0 : List (S204)) (l1 : List (S204)) : Option (Bool) := if (l0.length : Int) = (l1.length : Int) then (laws_eqCalcS.l0 k l0 l1 0) else (some false)
theorem laws_eqCalcS.mono_l : ∀ k, (∀ y0 y1 y2, LeO (laws_eqCalcS.l0 k y0 y1 y2) (laws_eqCalcS.l0 (k + 1) y0 y1 y2))
  | 0 => fun _ _ _ r h => by simp [laws_eqCalcS.l0] at h
  | k + 1 => by
    have ih0 := laws_eqCalcS.mono_l k
    · intro y0 y1 y2
      unfold laws_eqCalcS.l0
      repeat' first
      | (with_reducible exact ih0 _ _ _)
      | (with_reducible exact LeO.refl _)
      | (with_reducible exact LeO.none _)
      | (with_reducible refine LeO.ite ?_ ?_)
      | (with_reducible refine LeO.bind ?_ (fun _ => ?_))
      | exact ih0 _ _ _
      | exact LeO.none _
      | refine LeO.ite ?_ ?_
      | refine LeO.bind ?_ (fun _ => ?_)
theorem laws_eqCalcS.mono : ∀ a0 a1 k, LeO (laws_eqCalcS.f k a0 a1) (laws_eqCalcS.f (k + 1) a0 a1) := by
  intro a0 a1 k
  have ih0 := laws_eqCalcS.mono_l k
  unfold laws_eqCalcS.f
  repeat' first
      | (with_reducible exact ih0 _ _ _)
      | (with_reducible exact LeO.refl _)
      | (with_reducible exact LeO.none _)
      | (with_reducible refine LeO.ite ?_ ?_)
      | (with_reducible refine LeO.bind ?_ (fun _ => ?_))
      | exact ih0 _ _ _
      | exact LeO.none _
      | refine LeO.ite ?_ ?_
      | refine LeO.bind ?_ (fun _ => ?_)
def laws_eqCalcS.T6 : Bool × List (List Nat × List Nat) := (true, [([], []), ([], []), ([0, 1], [0, 1]), ([2], [2]), ([], []), ([], []), ([4, 5], [4, 5]), ([6], [6]), ([3, 7], [3, 7]), ([8], [8])])
def laws_eqCalcS.B6 : List Nat := [0, 0, 3, 7, 0, 0, 48, 112, 255, 511]
theorem laws_eqCalcS.tab6 : rtab .any (opsOf Try.f196 6) = laws_eqCalcS.T6 := by kernel_rfl
theorem laws_eqCalcS.bits6 : waitsOk laws_eqCalcS.T6.2 laws_eqCalcS.B6 = true := by kernel_rfl
set_option maxHeartbeats 8000000 in
set_option maxRecDepth 100000 in
theorem laws_eqCalcS.calls (k : Nat) (A0 : Option Addr) (c0 : Nat) (l0 : List (S204)) (A1 : Option Addr) (c1 : Nat) (l1 : List (S204)) (r : Bool) (w : World) (hr0 : Kd.C k204 w A0 l0.length l0) (hc0 : l0.length ≤ c0) (hr1 : Kd.C k204 w A1 l1.length l1) (hc1 : l1.length ≤ c1) (h : laws_eqCalcS.f k l0 l1 = some r) :
    Calls Try.prog 196 #[.slice A0 l0.length c0, .slice A1 l1.length c1] w fun e w' => e = .returned (.bool r) ∧ Below w.heap.size w w' := by
  have hu204 := Try.underlying204
  have HR0 := zK hr0
  have HC0 := zK hc0
  clear hr0 hc0
  have HR1 := zK hr1
  have HC1 := zK hc1
  clear hr1 hc1
  have HB := zK (Below.refl w.heap.size w)
  have H : (if (l0.length : Int) = (l1.length : Int) then (laws_eqCalcS.l0 k l0 l1 0) else (some false)) = some r := h
  clear h
  by_cases c3 : (l0.length : Int) = (l1.length : Int)
  rotate_left
  · rw [if_neg c3] at H
    have c3b0 : ((l0.length : Int) == (l1.length : Int)) = false := beq_eq_false_iff_ne.mpr c3
    have c3b1 : ((l0.length : Int) != (l1.length : Int)) = true := bne_iff_ne.mpr c3
    have c3b2 : (l0.length == l1.length) = false := by first | simpa using c3 | (simp at c3 ⊢; omega)
    obtain rfl := Option.some.inj H
    go_enter Try.func196, Try.ntmps196
    go_wp2
    go_ret
    exact ⟨zE, zB⟩
  rw [if_pos c3] at H
  have c3b0 : ((l0.length : Int) == (l1.length : Int)) = true := beq_iff_eq.mpr c3
  have c3b1 : ((l0.length : Int) != (l1.length : Int)) = false := bne_eq_false_iff_eq.mpr c3
  have c3b2 : (l0.length == l1.length) = true := by first | simpa using c3 | (simp at c3 ⊢; omega)
  clear c3
  have H' := zK H
  clear H
  go_enter Try.func196, Try.ntmps196
  go_wp2
  go_loopg [5] k (fun kq v5 w' => ∃ (x5_1 : Int), v5 = .int .i64 x5_1 ∧ Aside0 (laws_eqCalcS.l0 kq l0 l1 x5_1 = some r) ∧ Aside0 (kq ≤ k) ∧ Aside0 (Below w.heap.size w w'))
  case atStart => exact ⟨(0), zR, H', ⟨Nat.le_refl _⟩, ⟨zB⟩⟩
  clear H'
  try clear c1
  try clear p2
  try clear c3
  try clear c3b0
  try clear c3b1
  try clear c3b2
  obtain ⟨x5_1, rfl, HA, HK1, HB⟩ := hrel
  rcases gk with _ | k1
  · exact absurd HA.out (by simp [laws_eqCalcS.l0])
  have H := HA.out
  clear HA
  simp only [laws_eqCalcS.l0] at H
  by_cases c4 : x5_1 < (l0.length : Int)
  rotate_left
  · rw [if_neg c4] at H
    have c4b0 : decide (x5_1 < (l0.length : Int)) = false := decide_eq_false c4
    clear c4
    obtain rfl := Option.some.inj H
    go_wp2
    go_ret
    exact ⟨zE, zB⟩
  rw [if_pos c4] at H
  have c4b0 : decide (x5_1 < (l0.length : Int)) = true := decide_eq_true c4
  clear c4
  by_cases c5 : 0 ≤ x5_1
  rotate_left
  · rw [if_neg c5] at H
    exact absurd H (by simp)
  rw [if_pos c5] at H
  have c5b0 : decide (0 ≤ x5_1) = true := decide_eq_true c5
  clear c5
  by_cases c6 : x5_1 < (l1.length : Int)
  rotate_left
  · rw [if_neg c6] at H
    exact absurd H (by simp)
  rw [if_pos c6] at H
  have c6b0 : decide (x5_1 < (l1.length : Int)) = true := decide_eq_true c6
  clear c6
  replace H := Option.bind_eq_some_iff.mp H
  obtain ⟨t347, A70, H⟩ := H
  replace H : (if t347 = true then (laws_eqCalcS.l0 k1 l0 l1 (wrap64 (x5_1 + 1))) else (some false)) = some r := H
  have A7 := zK A70
  clear A70
  by_cases c8 : t347 = true
  rotate_left
  · replace c8 := Bool.eq_false_iff.mpr c8
    subst c8
    have H1 : (some false) = some r := by rw [if_neg (show ¬ (false = true) by decide)] at H; exact H
    clear H
    have H := H1
    clear H1
    obtain rfl := Option.some.inj H
    try go_wp2
    have n0_ := zK (ze HB.out)
    clear HB
    have HB := n0_
    clear n0_
    have p345 : 0 ≤ (x5_1 : Int) := of_decide_eq_true zA
    have q345 : x5_1 < (l0.length : Int) := of_decide_eq_true zA
    obtain ⟨ad345, e345, hx345_0, hx345_1, hx345_2⟩ := at_T204 HR0.out x5_1 p345 q345
    have hw345_2 := hx345_2
    have hw345_1 := hx345_1
    have hw345_0 := hx345_0
    cases e345
    (try replace hx345_0 := zX HB hx345_0)
    (try replace hx345_1 := zX HB hx345_1)
    (try replace hx345_2 := zX HB hx345_2)
    replace p345 := eq_true p345
    replace q345 := eq_true q345
    have p346 : 0 ≤ (x5_1 : Int) := of_decide_eq_true zA
    have q346 : x5_1 < (l1.length : Int) := of_decide_eq_true zA
    obtain ⟨ad346, e346, hx346_0, hx346_1, hx346_2⟩ := at_T204 HR1.out x5_1 p346 q346
    have hw346_2 := hx346_2
    have hw346_1 := hx346_1
    have hw346_0 := hx346_0
    cases e346
    (try replace hx346_0 := zX HB hx346_0)
    (try replace hx346_1 := zX HB hx346_1)
    (try replace hx346_2 := zX HB hx346_2)
    replace p346 := eq_true p346
    replace q346 := eq_true q346
    refine start_ (n := 10) (S := fun w' => w'.cell? (ad345.add ((x5_1).toNat * 3)) = some (.int .i64 ((rd_T204 l0 x5_1).f0)) ∧ w'.cell? ⟨(ad345.add ((x5_1).toNat * 3)).block, (ad345.add ((x5_1).toNat * 3)).off + 1, none⟩ = some (.int .i64 ((rd_T204 l0 x5_1).f1)) ∧ w'.cell? ⟨(ad345.add ((x5_1).toNat * 3)).block, (ad345.add ((x5_1).toNat * 3)).off + 2, none⟩ = some (.int .i64 ((rd_T204 l0 x5_1).f2)) ∧ w'.cell? (ad346.add ((x5_1).toNat * 3)) = some (.int .i64 ((rd_T204 l1 x5_1).f0)) ∧ w'.cell? ⟨(ad346.add ((x5_1).toNat * 3)).block, (ad346.add ((x5_1).toNat * 3)).off + 1, none⟩ = some (.int .i64 ((rd_T204 l1 x5_1).f1)) ∧ w'.cell? ⟨(ad346.add ((x5_1).toNat * 3)).block, (ad346.add ((x5_1).toNat * 3)).off + 2, none⟩ = some (.int .i64 ((rd_T204 l1 x5_1).f2))) (ds := []) (bl 10 0) (by kernel_rfl) rfl (by kernel_rfl) ⟨(zX HB hw345_0), (zX HB hw345_1), (zX HB hw345_2), (zX HB hw346_0), (zX HB hw346_1), (zX HB hw346_2)⟩ (fun hHeld => ?_); refine with_tabW laws_eqCalcS.tab6 laws_eqCalcS.bits6 (fun HT_ HW_ => ?_)
    generalize wr.drew = w11 at HB hx345_0 hx345_1 hx345_2 hx346_0 hx346_1 hx346_2 hHeld ⊢
    refine zP 0 17 (bl 10 1) HT_ ?_
    refine zP 1 18 (bl 10 3) HT_ ?_
    refine zP 2 19 (bl 10 7) HT_ ?_
    refine zP 4 21 (bl 10 23) HT_ ?_
    refine zP 5 22 (bl 10 55) HT_ ?_
    refine zP 6 23 (bl 10 119) HT_ ?_
    refine zT 3 20 (bl 10 127) rfl rfl HT_ HW_ hHeld (by rintro w' ⟨s0, s1, s2, s3, s4, s5⟩; go_simp; with_reducible rfl) ?_
    refine zT 7 24 (bl 10 255) rfl rfl HT_ HW_ hHeld (by rintro w' ⟨s0, s1, s2, s3, s4, s5⟩; go_simp; with_reducible rfl) ?_
    refine one_ (i := 8) (N := some 25) (bl 10 511) rfl rfl (one_of HT_.out (by kernel_rfl)) (by decide) (fun K hK => ?_)
    refine goes_ Try.func218 (by kernel_rfl) rfl #[.agg #[.int .i64 ((rd_T204 l0 x5_1).f0), .int .i64 ((rd_T204 l0 x5_1).f1), .int .i64 ((rd_T204 l0 x5_1).f2)], .agg #[.int .i64 ((rd_T204 l1 x5_1).f0), .int .i64 ((rd_T204 l1 x5_1).f1), .int .i64 ((rd_T204 l1 x5_1).f2)]] (by rfl) rfl rfl zL ?_
    with_reducible refine (laws_eqCalc.calls ((rd_T204 l0 x5_1).f0) ((rd_T204 l0 x5_1).f1) ((rd_T204 l0 x5_1).f2) ((rd_T204 l1 x5_1).f0) ((rd_T204 l1 x5_1).f1) ((rd_T204 l1 x5_1).f2) false _ A7.out).mono ?_
    rintro e w12 ⟨rfl, hb⟩
    refine ⟨_, rfl, ?_⟩
    have n0_ := zK (zp zB hb)
    clear HB
    have HB := n0_
    clear n0_
    (try clear hb)
    (try clear hb2)
    (try clear hk)
    (try clear hi)
    refine hK.out _ _ ⟨(zX HB hw345_0), (zX HB hw345_1), (zX HB hw345_2), (zX HB hw346_0), (zX HB hw346_1), (zX HB hw346_2)⟩ (fun hHeld => ?_)
    clear hK K
    refine zU 25 ?_
    refine zP 9 26 (bl 10 1023) HT_ ?_
    refine done_ (done_of HT_.out (by kernel_rfl)) ?_
    try go_wp2
    go_ret
    exact ⟨zE, zB⟩
  subst c8
  have H1 : (laws_eqCalcS.l0 k1 l0 l1 (wrap64 (x5_1 + 1))) = some r := by rw [if_pos rfl] at H; exact H
  clear H
  have H := H1
  clear H1
  have H' := zK H
  clear H
  try go_wp2
  have n0_ := zK (ze HB.out)
  clear HB
  have HB := n0_
  clear n0_
  have p345 : 0 ≤ (x5_1 : Int) := of_decide_eq_true zA
  have q345 : x5_1 < (l0.length : Int) := of_decide_eq_true zA
  obtain ⟨ad345, e345, hx345_0, hx345_1, hx345_2⟩ := at_T204 HR0.out x5_1 p345 q345
  have hw345_2 := hx345_2
  have hw345_1 := hx345_1
  have hw345_0 := hx345_0
  cases e345
  (try replace hx345_0 := zX HB hx345_0)
  (try replace hx345_1 := zX HB hx345_1)
  (try replace hx345_2 := zX HB hx345_2)
  replace p345 := eq_true p345
  replace q345 := eq_true q345
  have p346 : 0 ≤ (x5_1 : Int) := of_decide_eq_true zA
  have q346 : x5_1 < (l1.length : Int) := of_decide_eq_true zA
  obtain ⟨ad346, e346, hx346_0, hx346_1, hx346_2⟩ := at_T204 HR1.out x5_1 p346 q346
  have hw346_2 := hx346_2
  have hw346_1 := hx346_1
  have hw346_0 := hx346_0
  cases e346
  (try replace hx346_0 := zX HB hx346_0)
  (try replace hx346_1 := zX HB hx346_1)
  (try replace hx346_2 := zX HB hx346_2)
  replace p346 := eq_true p346
  replace q346 := eq_true q346
  refine start_ (n := 10) (S := fun w' => w'.cell? (ad345.add ((x5_1).toNat * 3)) = some (.int .i64 ((rd_T204 l0 x5_1).f0)) ∧ w'.cell? ⟨(ad345.add ((x5_1).toNat * 3)).block, (ad345.add ((x5_1).toNat * 3)).off + 1, none⟩ = some (.int .i64 ((rd_T204 l0 x5_1).f1)) ∧ w'.cell? ⟨(ad345.add ((x5_1).toNat * 3)).block, (ad345.add ((x5_1).toNat * 3)).off + 2, none⟩ = some (.int .i64 ((rd_T204 l0 x5_1).f2)) ∧ w'.cell? (ad346.add ((x5_1).toNat * 3)) = some (.int .i64 ((rd_T204 l1 x5_1).f0)) ∧ w'.cell? ⟨(ad346.add ((x5_1).toNat * 3)).block, (ad346.add ((x5_1).toNat * 3)).off + 1, none⟩ = some (.int .i64 ((rd_T204 l1 x5_1).f1)) ∧ w'.cell? ⟨(ad346.add ((x5_1).toNat * 3)).block, (ad346.add ((x5_1).toNat * 3)).off + 2, none⟩ = some (.int .i64 ((rd_T204 l1 x5_1).f2))) (ds := []) (bl 10 0) (by kernel_rfl) rfl (by kernel_rfl) ⟨(zX HB hw345_0), (zX HB hw345_1), (zX HB hw345_2), (zX HB hw346_0), (zX HB hw346_1), (zX HB hw346_2)⟩ (fun hHeld => ?_); refine with_tabW laws_eqCalcS.tab6 laws_eqCalcS.bits6 (fun HT_ HW_ => ?_)
  generalize wr.drew = w9 at HB hx345_0 hx345_1 hx345_2 hx346_0 hx346_1 hx346_2 hHeld ⊢
  refine zP 0 17 (bl 10 1) HT_ ?_
  refine zP 1 18 (bl 10 3) HT_ ?_
  refine zP 2 19 (bl 10 7) HT_ ?_
  refine zP 4 21 (bl 10 23) HT_ ?_
  refine zP 5 22 (bl 10 55) HT_ ?_
  refine zP 6 23 (bl 10 119) HT_ ?_
  refine zT 3 20 (bl 10 127) rfl rfl HT_ HW_ hHeld (by rintro w' ⟨s0, s1, s2, s3, s4, s5⟩; go_simp; with_reducible rfl) ?_
  refine zT 7 24 (bl 10 255) rfl rfl HT_ HW_ hHeld (by rintro w' ⟨s0, s1, s2, s3, s4, s5⟩; go_simp; with_reducible rfl) ?_
  refine one_ (i := 8) (N := some 25) (bl 10 511) rfl rfl (one_of HT_.out (by kernel_rfl)) (by decide) (fun K hK => ?_)
  refine goes_ Try.func218 (by kernel_rfl) rfl #[.agg #[.int .i64 ((rd_T204 l0 x5_1).f0), .int .i64 ((rd_T204 l0 x5_1).f1), .int .i64 ((rd_T204 l0 x5_1).f2)], .agg #[.int .i64 ((rd_T204 l1 x5_1).f0), .int .i64 ((rd_T204 l1 x5_1).f1), .int .i64 ((rd_T204 l1 x5_1).f2)]] (by rfl) rfl rfl zL ?_
  with_reducible refine (laws_eqCalc.calls ((rd_T204 l0 x5_1).f0) ((rd_T204 l0 x5_1).f1) ((rd_T204 l0 x5_1).f2) ((rd_T204 l1 x5_1).f0) ((rd_T204 l1 x5_1).f1) ((rd_T204 l1 x5_1).f2) true _ A7.out).mono ?_
  rintro e w10 ⟨rfl, hb⟩
  refine ⟨_, rfl, ?_⟩
  have n0_ := zK (zp zB hb)
  clear HB
  have HB := n0_
  clear n0_
  (try clear hb)
  (try clear hb2)
  (try clear hk)
  (try clear hi)
  refine hK.out _ _ ⟨(zX HB hw345_0), (zX HB hw345_1), (zX HB hw345_2), (zX HB hw346_0), (zX HB hw346_1), (zX HB hw346_2)⟩ (fun hHeld => ?_)
  clear hK K
  refine zU 25 ?_
  refine zP 9 26 (bl 10 1023) HT_ ?_
  refine done_ (done_of HT_.out (by kernel_rfl)) ?_
  try go_wp2
  go_roundg k1
  case measure => have := HK1.out; omega
  case rel => exact ⟨(wrap64 (x5_1 + 1)), zR, H', ⟨by have := HK1.out; omega⟩, ⟨zB⟩⟩

end Go.Proofs.Ytkfagiojcjnfkaa.PFnExactNestOk
