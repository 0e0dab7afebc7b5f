-- Printed out of the translation by this session's own turned copy of a printer; Lean checks it.
import Derived.Test.YtkfagiojcjnfkaaPFnExactNestOkx0
import Derived.Test.YtkfagiojcjnfkaaPFnExactNestOkx8
namespace Go.Proofs.Ytkfagiojcjnfkaa.PFnExactNestOk
open Go.RowKit Go.Proofs.YtkfagiojcjnfkaaW.PrintWords Go.Proofs.YtkfagiojcjnfkaaW.PrintLast Go.Proofs.YtkfagiojcjnfkaaW.PrintMore
attribute [local go_sem] max2_int min2_int max_two min_two max_three min_three max_four min_four   -- for this text's walks alone
set_option linter.unusedVariables false
set_option linter.unusedSimpArgs false

/-! ### impl_codeOk: function 152 -/
mutual
def impl_codeOk.j0 : Nat → List (S204) → Int → Bool → Option (Bool)
  | 0, _, _, _ => none
  | k + 1, x0, x1, x15 => if x15 = true then (some false) else (impl_codeOk.l0 k x1 x0 (x0.length : Int) 0)
def impl_codeOk.l0 : Nat → Int → List (S204) → Int → Int → Option (Bool)
  | 0, _, _, _, _ => none
  | k + 1, x1, x16, x17, x18 => if x18 < x17 then (if 0 ≤ x18 then (if x18 < (x16.length : Int) then (if ((rd_T204 x16 x18).f0) = 1 then (if ((rd_T204 x16 x18).f1) ≥ 0 then (if ((rd_T204 x16 x18).f1) < x1 then (impl_codeOk.j4 k x1 (((rd_T204 x16 x18).f2) == 0) x16 x17 x18) else (impl_codeOk.j4 k x1 false x16 x17 x18)) else (impl_codeOk.j4 k x1 false x16 x17 x18)) else (if ((rd_T204 x16 x18).f0) = 2 then ((impl_isNum.f ((rd_T204 x16 x18).f1)).bind fun t285 => (if t285 = true then (impl_codeOk.j4 k x1 (((rd_T204 x16 x18).f2) == 0) x16 x17 x18) else (impl_codeOk.j4 k x1 false x16 x17 x18))) else (if ((rd_T204 x16 x18).f0) = 3 then (impl_codeOk.j2 k x1 x18 false x16 x17 x18 ((rd_T204 x16 x18).f0) (((rd_T204 x16 x18).f0) == 3) ((rd_T204 x16 x18).f0) ((rd_T204 x16 x18).f1) ((rd_T204 x16 x18).f2)) else (if ((rd_T204 x16 x18).f0) = 4 then (impl_codeOk.j2 k x1 x18 false x16 x17 x18 ((rd_T204 x16 x18).f0) (((rd_T204 x16 x18).f0) == 4) ((rd_T204 x16 x18).f0) ((rd_T204 x16 x18).f1) ((rd_T204 x16 x18).f2)) else (impl_codeOk.j2 k x1 x18 false x16 x17 x18 ((rd_T204 x16 x18).f0) (((rd_T204 x16 x18).f0) == 5) ((rd_T204 x16 x18).f0) ((rd_T204 x16 x18).f1) ((rd_T204 x16 x18).f2)))))) else (none)) else (none)) else (some true)
def impl_codeOk.j4 : Nat → Int → Bool → List (S204) → Int → Int → Option (Bool)
  | 0, _, _, _, _, _ => none
  | k + 1, x1, x7, x16, x17, x18 => if x7 = true then (impl_codeOk.l0 k x1 x16 x17 (wrap64 (x18 + 1))) else (some false)
def impl_codeOk.j2 : Nat → Int → Int → Bool → List (S204) → Int → Int → Int → Bool → Int → Int → Int → Option (Bool)
  | 0, _, _, _, _, _, _, _, _, _, _, _ => none
  | k + 1, x1, x5, x7, x16, x17, x18, x24, x51, x285000, x285001, x285002 => if x51 = true then (if x285001 ≥ 0 then (if x285001 < x5 then (if x285002 ≥ 0 then (impl_codeOk.j4 k x1 (decide (x285002 < x5)) x16 x17 x18) else (impl_codeOk.j4 k x1 false x16 x17 x18)) else (impl_codeOk.j4 k x1 false x16 x17 x18)) else (impl_codeOk.j4 k x1 false x16 x17 x18)) else (if x24 = 6 then (impl_codeOk.j3 k x1 x5 x7 x16 x17 x18 (x24 == 6) x285000 x285001 x285002) else (if x24 = 7 then (impl_codeOk.j3 k x1 x5 x7 x16 x17 x18 (x24 == 7) x285000 x285001 x285002) else (if x24 = 8 then (impl_codeOk.j3 k x1 x5 x7 x16 x17 x18 (x24 == 8) x285000 x285001 x285002) else (impl_codeOk.j3 k x1 x5 x7 x16 x17 x18 (x24 == 9) x285000 x285001 x285002))))
def impl_codeOk.j3 : Nat → Int → Int → Bool → List (S204) → Int → Int → Bool → Int → Int → Int → Option (Bool)
  | 0, _, _, _, _, _, _, _, _, _, _ => none
  | k + 1, x1, x5, x7, x16, x17, x18, x75, x285000, x285001, x285002 => if x75 = true then (if x285001 ≥ 0 then (if x285001 < x5 then (impl_codeOk.j4 k x1 (x285002 == 0) x16 x17 x18) else (impl_codeOk.j4 k x1 false x16 x17 x18)) else (impl_codeOk.j4 k x1 false x16 x17 x18)) else (impl_codeOk.j4 k x1 x7 x16 x17 x18)
end
def impl_codeOk.f (k : Nat) (l0 : List (S204)) (a1 : Int) : Option (Bool) := if (l0.length : Int) < 1 then (impl_codeOk.j0 k l0 a1 true) else (impl_codeOk.j0 k l0 a1 (decide ((l0.length : Int) > 60)))
theorem impl_codeOk.mono_l : ∀ k, (∀ y0 y1 y2, LeO (impl_codeOk.j0 k y0 y1 y2) (impl_codeOk.j0 (k + 1) y0 y1 y2)) ∧ (∀ y0 y1 y2 y3, LeO (impl_codeOk.l0 k y0 y1 y2 y3) (impl_codeOk.l0 (k + 1) y0 y1 y2 y3)) ∧ (∀ y0 y1 y2 y3 y4, LeO (impl_codeOk.j4 k y0 y1 y2 y3 y4) (impl_codeOk.j4 (k + 1) y0 y1 y2 y3 y4)) ∧ (∀ y0 y1 y2 y3 y4 y5 y6 y7 y8 y9 y10, LeO (impl_codeOk.j2 k y0 y1 y2 y3 y4 y5 y6 y7 y8 y9 y10) (impl_codeOk.j2 (k + 1) y0 y1 y2 y3 y4 y5 y6 y7 y8 y9 y10)) ∧ (∀ y0 y1 y2 y3 y4 y5 y6 y7 y8 y9, LeO (impl_codeOk.j3 k y0 y1 y2 y3 y4 y5 y6 y7 y8 y9) (impl_codeOk.j3 (k + 1) y0 y1 y2 y3 y4 y5 y6 y7 y8 y9))
  | 0 => ⟨fun _ _ _ r h => by simp [impl_codeOk.j0] at h, fun _ _ _ _ r h => by simp [impl_codeOk.l0] at h, fun _ _ _ _ _ r h => by simp [impl_codeOk.j4] at h, fun _ _ _ _ _ _ _ _ _ _ _ r h => by simp [impl_codeOk.j2] at h, fun _ _ _ _ _ _ _ _ _ _ r h => by simp [impl_codeOk.j3] at h⟩
  | k + 1 => by
    obtain ⟨ih0, ih1, ih2, ih3, ih4⟩ := impl_codeOk.mono_l k
    refine ⟨?_, ?_, ?_, ?_, ?_⟩
    all_goals (intros; first | unfold impl_codeOk.j0 | unfold impl_codeOk.l0 | unfold impl_codeOk.j4 | unfold impl_codeOk.j2 | unfold impl_codeOk.j3)
    all_goals repeat' first
      | (with_reducible exact ih0 _ _ _)
      | (with_reducible exact ih1 _ _ _ _)
      | (with_reducible exact ih2 _ _ _ _ _)
      | (with_reducible exact ih3 _ _ _ _ _ _ _ _ _ _ _)
      | (with_reducible exact ih4 _ _ _ _ _ _ _ _ _ _)
      | (with_reducible exact LeO.refl _)
      | (with_reducible exact LeO.none _)
      | (with_reducible refine LeO.ite ?_ ?_)
      | (with_reducible refine LeO.bind ?_ (fun _ => ?_))
      | exact ih0 _ _ _
      | exact ih1 _ _ _ _
      | exact ih2 _ _ _ _ _
      | exact ih3 _ _ _ _ _ _ _ _ _ _ _
      | exact ih4 _ _ _ _ _ _ _ _ _ _
      | exact LeO.none _
      | refine LeO.ite ?_ ?_
      | refine LeO.bind ?_ (fun _ => ?_)
theorem impl_codeOk.mono : ∀ a0 a1 k, LeO (impl_codeOk.f k a0 a1) (impl_codeOk.f (k + 1) a0 a1) := by
  intro a0 a1 k
  obtain ⟨ih0, ih1, ih2, ih3, ih4⟩ := impl_codeOk.mono_l k
  unfold impl_codeOk.f
  repeat' first
      | (with_reducible exact ih0 _ _ _)
      | (with_reducible exact ih1 _ _ _ _)
      | (with_reducible exact ih2 _ _ _ _ _)
      | (with_reducible exact ih3 _ _ _ _ _ _ _ _ _ _ _)
      | (with_reducible exact ih4 _ _ _ _ _ _ _ _ _ _)
      | (with_reducible exact LeO.refl _)
      | (with_reducible exact LeO.none _)
      | (with_reducible refine LeO.ite ?_ ?_)
      | (with_reducible refine LeO.bind ?_ (fun _ => ?_))
      | exact ih0 _ _ _
      | exact ih1 _ _ _ _
      | exact ih2 _ _ _ _ _
      | exact ih3 _ _ _ _ _ _ _ _ _ _ _
      | exact ih4 _ _ _ _ _ _ _ _ _ _
      | exact LeO.none _
      | refine LeO.ite ?_ ?_
      | refine LeO.bind ?_ (fun _ => ?_)
set_option maxHeartbeats 8000000 in
set_option maxRecDepth 100000 in
theorem impl_codeOk.calls (k : Nat) (A0 : Option Addr) (c0 : Nat) (l0 : List (S204)) (a1 : Int) (r : Bool) (w : World) (hr0 : Kd.C k204 w A0 l0.length l0) (hc0 : l0.length ≤ c0) (h : impl_codeOk.f k l0 a1 = some r) :
    Calls Try.prog 152 #[.slice A0 l0.length c0, .int .i64 a1] w fun e w' => e = .returned (.bool r) ∧ Below w.heap.size w w' := by
  have hu204 := Try.underlying204
  have HR0 := zK hr0
  have HC0 := zK hc0
  clear hr0 hc0
  have HB := zK (Below.refl w.heap.size w)
  have H : (if (l0.length : Int) < 1 then (impl_codeOk.j0 k l0 a1 true) else (impl_codeOk.j0 k l0 a1 (decide ((l0.length : Int) > 60)))) = some r := h
  clear h
  have HC3 := zK H
  clear H
  go_enter Try.func152, Try.ntmps152
  go_upto_region 1 with (fail)
  go_cut [15] (fun v15 wc => ∃ (kq : Nat) (x15_2 : Bool), v15 = .bool x15_2 ∧ Aside0 (impl_codeOk.j0 kq l0 a1 x15_2 = some r) ∧ Aside0 (kq ≤ k) ∧ Aside0 (Below w.heap.size w wc))
  case first =>
   have H := HC3.out
   clear HC3
   by_cases c4 : (l0.length : Int) < 1
   · rw [if_pos c4] at H
     have c4b0 : decide ((l0.length : Int) < 1) = true := decide_eq_true c4
     have c4b1 : decide (l0.length < 1) = true := decide_eq_true (by omega)
     clear c4
     (first | rw [c4b0] | (simp only [i64_w, i32_w]; rw [c4b0]) | skip)
     have H' := zK H
     clear H
     go_wp2
     go_meet
     case rel => exact ⟨_, (true), zR, H', ⟨by first | omega | exact Nat.le_refl _⟩, ⟨zB⟩⟩
   rw [if_neg c4] at H
   have c4b0 : decide ((l0.length : Int) < 1) = false := decide_eq_false c4
   have c4b1 : decide (l0.length < 1) = false := decide_eq_false (by omega)
   clear c4
   (first | rw [c4b0] | (simp only [i64_w, i32_w]; rw [c4b0]) | skip)
   have H' := zK H
   clear H
   go_wp2
   go_meet
   case rel => exact ⟨_, (decide ((l0.length : Int) > 60)), zR, H', ⟨by first | omega | exact Nat.le_refl _⟩, ⟨zB⟩⟩
  case rest =>
   clear HC3
   try clear c1
   try clear p2
   try clear c4
   try clear c4b0
   try clear c4b1
   obtain ⟨kq, x15_2, rfl, HA, HJ2, HB⟩ := hcut
   cases kq with
   | zero => exact absurd HA.out (by simp [impl_codeOk.j0])
   | succ kj2 =>
    have H := HA.out
    clear HA
    simp only [impl_codeOk.j0] at H
    by_cases c5 : x15_2 = true
    · subst c5
      have H1 : (some false) = some r := by rw [if_pos rfl] at H; exact H
      clear H
      have H := H1
      clear H1
      obtain rfl := Option.some.inj H
      go_wp2
      go_ret
      exact ⟨zE, zB⟩
    replace c5 := Bool.eq_false_iff.mpr c5
    subst c5
    have H1 : (impl_codeOk.l0 kj2 a1 l0 (l0.length : Int) 0) = some r := by rw [if_neg (show ¬ (false = true) by decide)] at H; exact H
    clear H
    have H := H1
    clear H1
    have H' := zK H
    clear H
    go_wp2
    go_loopg [18] kj2 (fun kq v18 w' => ∃ (x18_2 : Int), v18 = .int .i64 x18_2 ∧ Aside0 (impl_codeOk.l0 kq a1 l0 (l0.length : Int) x18_2 = some r) ∧ Aside0 (kq ≤ kj2) ∧ Aside0 (Below w.heap.size w w'))
    case atStart => exact ⟨(0), zR, H', ⟨Nat.le_refl _⟩, ⟨zB⟩⟩
    clear H'
    try clear c1
    try clear p2
    try clear c4
    try clear c4b0
    try clear c4b1
    try clear c5
    try clear p2
    obtain ⟨x18_2, rfl, HA, HK2, HB⟩ := hrel
    rcases gk with _ | k2
    · exact absurd HA.out (by simp [impl_codeOk.l0])
    have H := HA.out
    clear HA
    simp only [impl_codeOk.l0] at H
    by_cases c6 : x18_2 < (l0.length : Int)
    rotate_left
    · rw [if_neg c6] at H
      have c6b0 : decide (x18_2 < (l0.length : Int)) = false := decide_eq_false c6
      clear c6
      obtain rfl := Option.some.inj H
      go_wp2
      go_ret
      exact ⟨zE, zB⟩
    rw [if_pos c6] at H
    have c6b0 : decide (x18_2 < (l0.length : Int)) = true := decide_eq_true c6
    clear c6
    by_cases c7 : 0 ≤ x18_2
    rotate_left
    · rw [if_neg c7] at H
      exact absurd H (by simp)
    rw [if_pos c7] at H
    have c7b0 : decide (0 ≤ x18_2) = true := decide_eq_true c7
    clear c7
    by_cases c8 : x18_2 < (l0.length : Int)
    rotate_left
    · rw [if_neg c8] at H
      exact absurd H (by simp)
    rw [if_pos c8] at H
    have c8b0 : decide (x18_2 < (l0.length : Int)) = true := decide_eq_true c8
    clear c8
    have HC9 := zK H
    clear H
    have p283 : 0 ≤ (x18_2 : Int) := of_decide_eq_true zA
    have q283 : x18_2 < (l0.length : Int) := of_decide_eq_true zA
    obtain ⟨ad283, e283, hx283_0, hx283_1, hx283_2⟩ := at_T204 HR0.out x18_2 p283 q283
    cases e283
    (try replace hx283_0 := zX HB hx283_0)
    (try replace hx283_1 := zX HB hx283_1)
    (try replace hx283_2 := zX HB hx283_2)
    replace p283 := eq_true p283
    replace q283 := eq_true q283
    go_upto_block 2 with (first | ((with_reducible refine gate_dst (N := 6) rfl ?_); (try (refine gate_guard (by rfl) ?_; dsimp only)); refine zJ 6 #[.int .i64 0, .int .i64 0, .int .i64 0] 204 ?_; intro gb284 hg w10 hbox hb; have n0_ := zK (zp zB hb); have n1_ := zK (hbox); have n2_ := zK (zI hg zB); have n3_ := zK (zI hg zB); clear HB; have HB := n0_; have BK284 := n1_; have GW284 := n2_; have GE284 := n3_; clear n0_ n1_ n2_ n3_; clear hb hbox hg; obtain ⟨hcz11_0, hcz11_1, hcz11_2, hfz11_0, hfz11_1, hfz11_2⟩ := zc3 BK284))
    (try simp only [Act.put, zq1, zq2, zq3])
    go_cut [7] (fun v7 wc => ∃ (kq : Nat) (x7_8 : Bool), v7 = .bool x7_8 ∧ Aside0 (impl_codeOk.j4 kq a1 x7_8 l0 (l0.length : Int) x18_2 = some r) ∧ Aside0 (kq ≤ k2) ∧ Aside0 (wc.heap[gb284]? = some (.cells #[.int .i64 ((rd_T204 l0 x18_2).f0), .int .i64 ((rd_T204 l0 x18_2).f1), .int .i64 ((rd_T204 l0 x18_2).f2)] 204 (0, 0))) ∧ Aside0 (Below w.heap.size w wc))
    case first =>
     have H := HC9.out
     clear HC9
     by_cases c12 : ((rd_T204 l0 x18_2).f0) = 1
     · rw [if_pos c12] at H
       have c12b0 : (((rd_T204 l0 x18_2).f0) == 1) = true := beq_iff_eq.mpr c12
       have c12b1 : (((rd_T204 l0 x18_2).f0) != 1) = false := bne_eq_false_iff_eq.mpr c12
       clear c12
       (first | rw [c12b0] | (simp only [i64_w, i32_w]; rw [c12b0]) | skip)
       by_cases c13 : ((rd_T204 l0 x18_2).f1) ≥ 0
       rotate_left
       · rw [if_neg c13] at H
         have c13b0 : decide (0 ≤ ((rd_T204 l0 x18_2).f1)) = false := decide_eq_false c13
         clear c13
         have H' := zK H
         clear H
         obtain ⟨hcz17_0, hcz17_1, hcz17_2, hfz17_0, hfz17_1, hfz17_2⟩ := zc3 BK284
         go_wp2
         go_meet
         case rel => exact ⟨_, (false), zR, H', ⟨by have := HJ2.out; have := HK2.out; first | omega | exact Nat.le_refl _⟩, ⟨by (with_reducible repeat (first | refine zn ?_ _ | refine zd ?_ | refine za ?_ _)); refine blk_put (cs := #[.int .i64 ((rd_T204 l0 x18_2).f0), .int .i64 ((rd_T204 l0 x18_2).f1), .int .i64 0]) ?_ 2 _ rfl; (with_reducible repeat (first | refine zn ?_ _ | refine zd ?_ | refine za ?_ _)); refine blk_put (cs := #[.int .i64 ((rd_T204 l0 x18_2).f0), .int .i64 0, .int .i64 0]) ?_ 1 _ rfl; (with_reducible repeat (first | refine zn ?_ _ | refine zd ?_ | refine za ?_ _)); refine blk_put (cs := #[.int .i64 0, .int .i64 0, .int .i64 0]) ?_ 0 _ rfl; (with_reducible repeat (first | refine zn ?_ _ | refine zd ?_ | refine za ?_ _)); exact BK284.out⟩, ⟨zB⟩⟩
       rw [if_pos c13] at H
       have c13b0 : decide (0 ≤ ((rd_T204 l0 x18_2).f1)) = true := decide_eq_true c13
       clear c13
       by_cases c14 : ((rd_T204 l0 x18_2).f1) < a1
       rotate_left
       · rw [if_neg c14] at H
         have c14b0 : decide (((rd_T204 l0 x18_2).f1) < a1) = false := decide_eq_false c14
         clear c14
         have H' := zK H
         clear H
         obtain ⟨hcz16_0, hcz16_1, hcz16_2, hfz16_0, hfz16_1, hfz16_2⟩ := zc3 BK284
         go_wp2
         go_meet
         case rel => exact ⟨_, (false), zR, H', ⟨by have := HJ2.out; have := HK2.out; first | omega | exact Nat.le_refl _⟩, ⟨by (with_reducible repeat (first | refine zn ?_ _ | refine zd ?_ | refine za ?_ _)); refine blk_put (cs := #[.int .i64 ((rd_T204 l0 x18_2).f0), .int .i64 ((rd_T204 l0 x18_2).f1), .int .i64 0]) ?_ 2 _ rfl; (with_reducible repeat (first | refine zn ?_ _ | refine zd ?_ | refine za ?_ _)); refine blk_put (cs := #[.int .i64 ((rd_T204 l0 x18_2).f0), .int .i64 0, .int .i64 0]) ?_ 1 _ rfl; (with_reducible repeat (first | refine zn ?_ _ | refine zd ?_ | refine za ?_ _)); refine blk_put (cs := #[.int .i64 0, .int .i64 0, .int .i64 0]) ?_ 0 _ rfl; (with_reducible repeat (first | refine zn ?_ _ | refine zd ?_ | refine za ?_ _)); exact BK284.out⟩, ⟨zB⟩⟩
       rw [if_pos c14] at H
       have c14b0 : decide (((rd_T204 l0 x18_2).f1) < a1) = true := decide_eq_true c14
       clear c14
       have H' := zK H
       clear H
       obtain ⟨hcz15_0, hcz15_1, hcz15_2, hfz15_0, hfz15_1, hfz15_2⟩ := zc3 BK284
       go_wp2
       go_meet
       case rel => exact ⟨_, ((((rd_T204 l0 x18_2).f2) == 0)), zR, H', ⟨by have := HJ2.out; have := HK2.out; first | omega | exact Nat.le_refl _⟩, ⟨by (with_reducible repeat (first | refine zn ?_ _ | refine zd ?_ | refine za ?_ _)); refine blk_put (cs := #[.int .i64 ((rd_T204 l0 x18_2).f0), .int .i64 ((rd_T204 l0 x18_2).f1), .int .i64 0]) ?_ 2 _ rfl; (with_reducible repeat (first | refine zn ?_ _ | refine zd ?_ | refine za ?_ _)); refine blk_put (cs := #[.int .i64 ((rd_T204 l0 x18_2).f0), .int .i64 0, .int .i64 0]) ?_ 1 _ rfl; (with_reducible repeat (first | refine zn ?_ _ | refine zd ?_ | refine za ?_ _)); refine blk_put (cs := #[.int .i64 0, .int .i64 0, .int .i64 0]) ?_ 0 _ rfl; (with_reducible repeat (first | refine zn ?_ _ | refine zd ?_ | refine za ?_ _)); exact BK284.out⟩, ⟨zB⟩⟩
     rw [if_neg c12] at H
     have c12b0 : (((rd_T204 l0 x18_2).f0) == 1) = false := beq_eq_false_iff_ne.mpr c12
     have c12b1 : (((rd_T204 l0 x18_2).f0) != 1) = true := bne_iff_ne.mpr c12
     (first | rw [c12b0] | (simp only [i64_w, i32_w]; rw [c12b0]) | skip)
     by_cases c18 : ((rd_T204 l0 x18_2).f0) = 2
     · rw [if_pos c18] at H
       have c18b0 : (((rd_T204 l0 x18_2).f0) == 2) = true := beq_iff_eq.mpr c18
       have c18b1 : (((rd_T204 l0 x18_2).f0) != 2) = false := bne_eq_false_iff_eq.mpr c18
       clear c18
       replace H := Option.bind_eq_some_iff.mp H
       obtain ⟨t285, A190, H⟩ := H
       replace H : (if t285 = true then (impl_codeOk.j4 k2 a1 (((rd_T204 l0 x18_2).f2) == 0) l0 (l0.length : Int) x18_2) else (impl_codeOk.j4 k2 a1 false l0 (l0.length : Int) x18_2)) = some r := H
       have A19 := zK A190
       clear A190
       by_cases c20 : t285 = true
       · subst c20
         have H1 : (impl_codeOk.j4 k2 a1 (((rd_T204 l0 x18_2).f2) == 0) l0 (l0.length : Int) x18_2) = some r := by rw [if_pos rfl] at H; exact H
         clear H
         have H := H1
         clear H1
         have H' := zK H
         clear H
         obtain ⟨hcz21_0, hcz21_1, hcz21_2, hfz21_0, hfz21_1, hfz21_2⟩ := zc3 BK284
         go_wp2_with (first | ((with_reducible refine gate_callee (f := 187) rfl ?_); refine zF 45 Try.func187 #[.int .i64 ((rd_T204 l0 x18_2).f1)] rfl zL ?_; (with_reducible refine (impl_isNum.calls ((rd_T204 l0 x18_2).f1) true _ A19.out).mono ?_); rintro e w' ⟨rfl, ⟨nd, rfl⟩⟩; refine ⟨_, rfl, ?_⟩))
         go_meet
         case rel => exact ⟨_, ((((rd_T204 l0 x18_2).f2) == 0)), zR, H', ⟨by have := HJ2.out; have := HK2.out; first | omega | exact Nat.le_refl _⟩, ⟨by (with_reducible repeat (first | refine zn ?_ _ | refine zd ?_ | refine za ?_ _)); refine blk_put (cs := #[.int .i64 ((rd_T204 l0 x18_2).f0), .int .i64 ((rd_T204 l0 x18_2).f1), .int .i64 0]) ?_ 2 _ rfl; (with_reducible repeat (first | refine zn ?_ _ | refine zd ?_ | refine za ?_ _)); refine blk_put (cs := #[.int .i64 ((rd_T204 l0 x18_2).f0), .int .i64 0, .int .i64 0]) ?_ 1 _ rfl; (with_reducible repeat (first | refine zn ?_ _ | refine zd ?_ | refine za ?_ _)); refine blk_put (cs := #[.int .i64 0, .int .i64 0, .int .i64 0]) ?_ 0 _ rfl; (with_reducible repeat (first | refine zn ?_ _ | refine zd ?_ | refine za ?_ _)); exact BK284.out⟩, ⟨zB⟩⟩
       replace c20 := Bool.eq_false_iff.mpr c20
       subst c20
       have H1 : (impl_codeOk.j4 k2 a1 false l0 (l0.length : Int) x18_2) = some r := by rw [if_neg (show ¬ (false = true) by decide)] at H; exact H
       clear H
       have H := H1
       clear H1
       have H' := zK H
       clear H
       obtain ⟨hcz22_0, hcz22_1, hcz22_2, hfz22_0, hfz22_1, hfz22_2⟩ := zc3 BK284
       go_wp2_with (first | ((with_reducible refine gate_callee (f := 187) rfl ?_); refine zF 45 Try.func187 #[.int .i64 ((rd_T204 l0 x18_2).f1)] rfl zL ?_; (with_reducible refine (impl_isNum.calls ((rd_T204 l0 x18_2).f1) false _ A19.out).mono ?_); rintro e w' ⟨rfl, ⟨nd, rfl⟩⟩; refine ⟨_, rfl, ?_⟩))
       go_meet
       case rel => exact ⟨_, (false), zR, H', ⟨by have := HJ2.out; have := HK2.out; first | omega | exact Nat.le_refl _⟩, ⟨by (with_reducible repeat (first | refine zn ?_ _ | refine zd ?_ | refine za ?_ _)); refine blk_put (cs := #[.int .i64 ((rd_T204 l0 x18_2).f0), .int .i64 ((rd_T204 l0 x18_2).f1), .int .i64 0]) ?_ 2 _ rfl; (with_reducible repeat (first | refine zn ?_ _ | refine zd ?_ | refine za ?_ _)); refine blk_put (cs := #[.int .i64 ((rd_T204 l0 x18_2).f0), .int .i64 0, .int .i64 0]) ?_ 1 _ rfl; (with_reducible repeat (first | refine zn ?_ _ | refine zd ?_ | refine za ?_ _)); refine blk_put (cs := #[.int .i64 0, .int .i64 0, .int .i64 0]) ?_ 0 _ rfl; (with_reducible repeat (first | refine zn ?_ _ | refine zd ?_ | refine za ?_ _)); exact BK284.out⟩, ⟨zB⟩⟩
     rw [if_neg c18] at H
     have c18b0 : (((rd_T204 l0 x18_2).f0) == 2) = false := beq_eq_false_iff_ne.mpr c18
     have c18b1 : (((rd_T204 l0 x18_2).f0) != 2) = true := bne_iff_ne.mpr c18
     have HC23 := zK H
     clear H
     go_upto_if 51 with (fail)
     go_cut [51] (fun v51 wc => ∃ (kq : Nat) (x51_22 : Bool), v51 = .bool x51_22 ∧ Aside0 (impl_codeOk.j2 kq a1 x18_2 false l0 (l0.length : Int) x18_2 ((rd_T204 l0 x18_2).f0) x51_22 ((rd_T204 l0 x18_2).f0) ((rd_T204 l0 x18_2).f1) ((rd_T204 l0 x18_2).f2) = some r) ∧ Aside0 (kq ≤ k2) ∧ Aside0 (wc.heap[gb284]? = some (.cells #[.int .i64 ((rd_T204 l0 x18_2).f0), .int .i64 ((rd_T204 l0 x18_2).f1), .int .i64 ((rd_T204 l0 x18_2).f2)] 204 (0, 0))) ∧ Aside0 (Below w.heap.size w wc))
     case first =>
      have H := HC23.out
      clear HC23
      by_cases c24 : ((rd_T204 l0 x18_2).f0) = 3
      · rw [if_pos c24] at H
        have c24b0 : (((rd_T204 l0 x18_2).f0) == 3) = true := beq_iff_eq.mpr c24
        have c24b1 : (((rd_T204 l0 x18_2).f0) != 3) = false := bne_eq_false_iff_eq.mpr c24
        clear c24
        (first | rw [c24b0] | (simp only [i64_w, i32_w]; rw [c24b0]) | skip)
        have H' := zK H
        clear H
        go_wp2
        go_meet
        case rel => exact ⟨_, ((((rd_T204 l0 x18_2).f0) == 3)), zR, H', ⟨by have := HJ2.out; have := HK2.out; first | omega | exact Nat.le_refl _⟩, ⟨by (with_reducible repeat (first | refine zn ?_ _ | refine zd ?_ | refine za ?_ _)); refine blk_put (cs := #[.int .i64 ((rd_T204 l0 x18_2).f0), .int .i64 ((rd_T204 l0 x18_2).f1), .int .i64 0]) ?_ 2 _ rfl; (with_reducible repeat (first | refine zn ?_ _ | refine zd ?_ | refine za ?_ _)); refine blk_put (cs := #[.int .i64 ((rd_T204 l0 x18_2).f0), .int .i64 0, .int .i64 0]) ?_ 1 _ rfl; (with_reducible repeat (first | refine zn ?_ _ | refine zd ?_ | refine za ?_ _)); refine blk_put (cs := #[.int .i64 0, .int .i64 0, .int .i64 0]) ?_ 0 _ rfl; (with_reducible repeat (first | refine zn ?_ _ | refine zd ?_ | refine za ?_ _)); exact BK284.out⟩, ⟨zB⟩⟩
      rw [if_neg c24] at H
      have c24b0 : (((rd_T204 l0 x18_2).f0) == 3) = false := beq_eq_false_iff_ne.mpr c24
      have c24b1 : (((rd_T204 l0 x18_2).f0) != 3) = true := bne_iff_ne.mpr c24
      (first | rw [c24b0] | (simp only [i64_w, i32_w]; rw [c24b0]) | skip)
      by_cases c25 : ((rd_T204 l0 x18_2).f0) = 4
      rotate_left
      · rw [if_neg c25] at H
        have c25b0 : (((rd_T204 l0 x18_2).f0) == 4) = false := beq_eq_false_iff_ne.mpr c25
        have c25b1 : (((rd_T204 l0 x18_2).f0) != 4) = true := bne_iff_ne.mpr c25
        have H' := zK H
        clear H
        go_wp2
        go_meet
        case rel => exact ⟨_, ((((rd_T204 l0 x18_2).f0) == 5)), zR, H', ⟨by have := HJ2.out; have := HK2.out; first | omega | exact Nat.le_refl _⟩, ⟨by (with_reducible repeat (first | refine zn ?_ _ | refine zd ?_ | refine za ?_ _)); refine blk_put (cs := #[.int .i64 ((rd_T204 l0 x18_2).f0), .int .i64 ((rd_T204 l0 x18_2).f1), .int .i64 0]) ?_ 2 _ rfl; (with_reducible repeat (first | refine zn ?_ _ | refine zd ?_ | refine za ?_ _)); refine blk_put (cs := #[.int .i64 ((rd_T204 l0 x18_2).f0), .int .i64 0, .int .i64 0]) ?_ 1 _ rfl; (with_reducible repeat (first | refine zn ?_ _ | refine zd ?_ | refine za ?_ _)); refine blk_put (cs := #[.int .i64 0, .int .i64 0, .int .i64 0]) ?_ 0 _ rfl; (with_reducible repeat (first | refine zn ?_ _ | refine zd ?_ | refine za ?_ _)); exact BK284.out⟩, ⟨zB⟩⟩
      rw [if_pos c25] at H
      have c25b0 : (((rd_T204 l0 x18_2).f0) == 4) = true := beq_iff_eq.mpr c25
      have c25b1 : (((rd_T204 l0 x18_2).f0) != 4) = false := bne_eq_false_iff_eq.mpr c25
      clear c25
      have H' := zK H
      clear H
      go_wp2
      go_meet
      case rel => exact ⟨_, ((((rd_T204 l0 x18_2).f0) == 4)), zR, H', ⟨by have := HJ2.out; have := HK2.out; first | omega | exact Nat.le_refl _⟩, ⟨by (with_reducible repeat (first | refine zn ?_ _ | refine zd ?_ | refine za ?_ _)); refine blk_put (cs := #[.int .i64 ((rd_T204 l0 x18_2).f0), .int .i64 ((rd_T204 l0 x18_2).f1), .int .i64 0]) ?_ 2 _ rfl; (with_reducible repeat (first | refine zn ?_ _ | refine zd ?_ | refine za ?_ _)); refine blk_put (cs := #[.int .i64 ((rd_T204 l0 x18_2).f0), .int .i64 0, .int .i64 0]) ?_ 1 _ rfl; (with_reducible repeat (first | refine zn ?_ _ | refine zd ?_ | refine za ?_ _)); refine blk_put (cs := #[.int .i64 0, .int .i64 0, .int .i64 0]) ?_ 0 _ rfl; (with_reducible repeat (first | refine zn ?_ _ | refine zd ?_ | refine za ?_ _)); exact BK284.out⟩, ⟨zB⟩⟩
     case rest =>
      clear HC23
      try clear c1
      try clear c2
      try clear p2
      try clear q2
      try clear hx2
      try clear c4
      try clear c4b0
      try clear c4b1
      try clear c5
      try clear c6
      try clear c6b0
      try clear c7
      try clear c7b0
      try clear c8
      try clear c8b0
      try clear c12
      try clear c12b0
      try clear c12b1
      try clear c13
      try clear c13b0
      try clear c14
      try clear c14b0
      try clear c15
      try clear c18
      try clear c18b0
      try clear c18b1
      try clear c20
      try clear c24
      try clear c24b0
      try clear c24b1
      try clear c25
      try clear c25b0
      try clear c25b1
      try clear hcz11_0 hcz11_1 hcz11_2 hfz11_0 hfz11_1 hfz11_2
      try clear hcz15_0 hcz15_1 hcz15_2 hfz15_0 hfz15_1 hfz15_2
      try clear hcz16_0 hcz16_1 hcz16_2 hfz16_0 hfz16_1 hfz16_2
      try clear hcz17_0 hcz17_1 hcz17_2 hfz17_0 hfz17_1 hfz17_2
      try clear hcz21_0 hcz21_1 hcz21_2 hfz21_0 hfz21_1 hfz21_2
      try clear hcz22_0 hcz22_1 hcz22_2 hfz22_0 hfz22_1 hfz22_2
      try clear hx283_0
      try clear hx283_1
      try clear hx283_2
      try clear p2
      try clear p283
      try clear q283
      obtain ⟨kq, x51_22, rfl, HA, HJ22, BK284, HB⟩ := hcut
      cases kq with
      | zero => exact absurd HA.out (by simp [impl_codeOk.j2])
      | succ kj22 =>
       have H := HA.out
       clear HA
       simp only [impl_codeOk.j2] at H
       by_cases c26 : x51_22 = true
       · subst c26
         have H1 : (if ((rd_T204 l0 x18_2).f1) ≥ 0 then (if ((rd_T204 l0 x18_2).f1) < x18_2 then (if ((rd_T204 l0 x18_2).f2) ≥ 0 then (impl_codeOk.j4 kj22 a1 (decide (((rd_T204 l0 x18_2).f2) < x18_2)) l0 (l0.length : Int) x18_2) else (impl_codeOk.j4 kj22 a1 false l0 (l0.length : Int) x18_2)) else (impl_codeOk.j4 kj22 a1 false l0 (l0.length : Int) x18_2)) else (impl_codeOk.j4 kj22 a1 false l0 (l0.length : Int) x18_2)) = some r := by rw [if_pos rfl] at H; exact H
         clear H
         have H := H1
         clear H1
         by_cases c27 : ((rd_T204 l0 x18_2).f1) ≥ 0
         rotate_left
         · rw [if_neg c27] at H
           have c27b0 : decide (0 ≤ ((rd_T204 l0 x18_2).f1)) = false := decide_eq_false c27
           clear c27
           have H' := zK H
           clear H
           have hcz33_0 : wc.cell? ⟨gb284, 0, none⟩ = some (.int .i64 ((rd_T204 l0 x18_2).f0)) := zy BK284 0
           have hcz33_1 : wc.cell? ⟨gb284, 1, none⟩ = some (.int .i64 ((rd_T204 l0 x18_2).f1)) := zy BK284 1
           have hcz33_2 : wc.cell? ⟨gb284, 2, none⟩ = some (.int .i64 ((rd_T204 l0 x18_2).f2)) := zy BK284 2
           have hfz33_0 := zf BK284.out 0
           have hfz33_1 := zf BK284.out 1
           have hfz33_2 := zf BK284.out 2
           go_wp2
           go_meet
           case rel => exact ⟨_, (false), zR, H', ⟨by have := HJ2.out; have := HK2.out; have := HJ22.out; first | omega | exact Nat.le_refl _⟩, ⟨zM BK284⟩, ⟨zB⟩⟩
         rw [if_pos c27] at H
         have c27b0 : decide (0 ≤ ((rd_T204 l0 x18_2).f1)) = true := decide_eq_true c27
         clear c27
         by_cases c28 : ((rd_T204 l0 x18_2).f1) < x18_2
         rotate_left
         · rw [if_neg c28] at H
           have c28b0 : decide (((rd_T204 l0 x18_2).f1) < x18_2) = false := decide_eq_false c28
           clear c28
           have H' := zK H
           clear H
           have hcz32_0 : wc.cell? ⟨gb284, 0, none⟩ = some (.int .i64 ((rd_T204 l0 x18_2).f0)) := zy BK284 0
           have hcz32_1 : wc.cell? ⟨gb284, 1, none⟩ = some (.int .i64 ((rd_T204 l0 x18_2).f1)) := zy BK284 1
           have hcz32_2 : wc.cell? ⟨gb284, 2, none⟩ = some (.int .i64 ((rd_T204 l0 x18_2).f2)) := zy BK284 2
           have hfz32_0 := zf BK284.out 0
           have hfz32_1 := zf BK284.out 1
           have hfz32_2 := zf BK284.out 2
           go_wp2
           go_meet
           case rel => exact ⟨_, (false), zR, H', ⟨by have := HJ2.out; have := HK2.out; have := HJ22.out; first | omega | exact Nat.le_refl _⟩, ⟨zM BK284⟩, ⟨zB⟩⟩
         rw [if_pos c28] at H
         have c28b0 : decide (((rd_T204 l0 x18_2).f1) < x18_2) = true := decide_eq_true c28
         clear c28
         by_cases c29 : ((rd_T204 l0 x18_2).f2) ≥ 0
         rotate_left
         · rw [if_neg c29] at H
           have c29b0 : decide (0 ≤ ((rd_T204 l0 x18_2).f2)) = false := decide_eq_false c29
           clear c29
           have H' := zK H
           clear H
           have hcz31_0 : wc.cell? ⟨gb284, 0, none⟩ = some (.int .i64 ((rd_T204 l0 x18_2).f0)) := zy BK284 0
           have hcz31_1 : wc.cell? ⟨gb284, 1, none⟩ = some (.int .i64 ((rd_T204 l0 x18_2).f1)) := zy BK284 1
           have hcz31_2 : wc.cell? ⟨gb284, 2, none⟩ = some (.int .i64 ((rd_T204 l0 x18_2).f2)) := zy BK284 2
           have hfz31_0 := zf BK284.out 0
           have hfz31_1 := zf BK284.out 1
           have hfz31_2 := zf BK284.out 2
           go_wp2
           go_meet
           case rel => exact ⟨_, (false), zR, H', ⟨by have := HJ2.out; have := HK2.out; have := HJ22.out; first | omega | exact Nat.le_refl _⟩, ⟨zM BK284⟩, ⟨zB⟩⟩
         rw [if_pos c29] at H
         have c29b0 : decide (0 ≤ ((rd_T204 l0 x18_2).f2)) = true := decide_eq_true c29
         clear c29
         have H' := zK H
         clear H
         have hcz30_0 : wc.cell? ⟨gb284, 0, none⟩ = some (.int .i64 ((rd_T204 l0 x18_2).f0)) := zy BK284 0
         have hcz30_1 : wc.cell? ⟨gb284, 1, none⟩ = some (.int .i64 ((rd_T204 l0 x18_2).f1)) := zy BK284 1
         have hcz30_2 : wc.cell? ⟨gb284, 2, none⟩ = some (.int .i64 ((rd_T204 l0 x18_2).f2)) := zy BK284 2
         have hfz30_0 := zf BK284.out 0
         have hfz30_1 := zf BK284.out 1
         have hfz30_2 := zf BK284.out 2
         go_wp2
         go_meet
         case rel => exact ⟨_, (decide (((rd_T204 l0 x18_2).f2) < x18_2)), zR, H', ⟨by have := HJ2.out; have := HK2.out; have := HJ22.out; first | omega | exact Nat.le_refl _⟩, ⟨zM BK284⟩, ⟨zB⟩⟩
       replace c26 := Bool.eq_false_iff.mpr c26
       subst c26
       have H1 : (if ((rd_T204 l0 x18_2).f0) = 6 then (impl_codeOk.j3 kj22 a1 x18_2 false l0 (l0.length : Int) x18_2 (((rd_T204 l0 x18_2).f0) == 6) ((rd_T204 l0 x18_2).f0) ((rd_T204 l0 x18_2).f1) ((rd_T204 l0 x18_2).f2)) else (if ((rd_T204 l0 x18_2).f0) = 7 then (impl_codeOk.j3 kj22 a1 x18_2 false l0 (l0.length : Int) x18_2 (((rd_T204 l0 x18_2).f0) == 7) ((rd_T204 l0 x18_2).f0) ((rd_T204 l0 x18_2).f1) ((rd_T204 l0 x18_2).f2)) else (if ((rd_T204 l0 x18_2).f0) = 8 then (impl_codeOk.j3 kj22 a1 x18_2 false l0 (l0.length : Int) x18_2 (((rd_T204 l0 x18_2).f0) == 8) ((rd_T204 l0 x18_2).f0) ((rd_T204 l0 x18_2).f1) ((rd_T204 l0 x18_2).f2)) else (impl_codeOk.j3 kj22 a1 x18_2 false l0 (l0.length : Int) x18_2 (((rd_T204 l0 x18_2).f0) == 9) ((rd_T204 l0 x18_2).f0) ((rd_T204 l0 x18_2).f1) ((rd_T204 l0 x18_2).f2))))) = some r := by rw [if_neg (show ¬ (false = true) by decide)] at H; exact H
       clear H
       have H := H1
       clear H1
       have HC34 := zK H
       clear H
       go_upto_if 75 with (fail)
       go_cut [75] (fun v75 wc => ∃ (kq : Nat) (x75_33 : Bool), v75 = .bool x75_33 ∧ Aside0 (impl_codeOk.j3 kq a1 x18_2 false l0 (l0.length : Int) x18_2 x75_33 ((rd_T204 l0 x18_2).f0) ((rd_T204 l0 x18_2).f1) ((rd_T204 l0 x18_2).f2) = some r) ∧ Aside0 (kq ≤ kj22) ∧ Aside0 (wc.heap[gb284]? = some (.cells #[.int .i64 ((rd_T204 l0 x18_2).f0), .int .i64 ((rd_T204 l0 x18_2).f1), .int .i64 ((rd_T204 l0 x18_2).f2)] 204 (0, 0))) ∧ Aside0 (Below w.heap.size w wc))
       case first =>
        have H := HC34.out
        clear HC34
        by_cases c35 : ((rd_T204 l0 x18_2).f0) = 6
        · rw [if_pos c35] at H
          have c35b0 : (((rd_T204 l0 x18_2).f0) == 6) = true := beq_iff_eq.mpr c35
          have c35b1 : (((rd_T204 l0 x18_2).f0) != 6) = false := bne_eq_false_iff_eq.mpr c35
          clear c35
          (first | rw [c35b0] | (simp only [i64_w, i32_w]; rw [c35b0]) | skip)
          have H' := zK H
          clear H
          go_wp2
          go_meet
          case rel => exact ⟨_, ((((rd_T204 l0 x18_2).f0) == 6)), zR, H', ⟨by have := HJ2.out; have := HK2.out; have := HJ22.out; first | omega | exact Nat.le_refl _⟩, ⟨zM BK284⟩, ⟨zB⟩⟩
        rw [if_neg c35] at H
        have c35b0 : (((rd_T204 l0 x18_2).f0) == 6) = false := beq_eq_false_iff_ne.mpr c35
        have c35b1 : (((rd_T204 l0 x18_2).f0) != 6) = true := bne_iff_ne.mpr c35
        (first | rw [c35b0] | (simp only [i64_w, i32_w]; rw [c35b0]) | skip)
        by_cases c36 : ((rd_T204 l0 x18_2).f0) = 7
        · rw [if_pos c36] at H
          have c36b0 : (((rd_T204 l0 x18_2).f0) == 7) = true := beq_iff_eq.mpr c36
          have c36b1 : (((rd_T204 l0 x18_2).f0) != 7) = false := bne_eq_false_iff_eq.mpr c36
          clear c36
          have H' := zK H
          clear H
          go_wp2
          go_meet
          case rel => exact ⟨_, ((((rd_T204 l0 x18_2).f0) == 7)), zR, H', ⟨by have := HJ2.out; have := HK2.out; have := HJ22.out; first | omega | exact Nat.le_refl _⟩, ⟨zM BK284⟩, ⟨zB⟩⟩
        rw [if_neg c36] at H
        have c36b0 : (((rd_T204 l0 x18_2).f0) == 7) = false := beq_eq_false_iff_ne.mpr c36
        have c36b1 : (((rd_T204 l0 x18_2).f0) != 7) = true := bne_iff_ne.mpr c36
        by_cases c37 : ((rd_T204 l0 x18_2).f0) = 8
        rotate_left
        · rw [if_neg c37] at H
          have c37b0 : (((rd_T204 l0 x18_2).f0) == 8) = false := beq_eq_false_iff_ne.mpr c37
          have c37b1 : (((rd_T204 l0 x18_2).f0) != 8) = true := bne_iff_ne.mpr c37
          have H' := zK H
          clear H
          go_wp2
          go_meet
          case rel => exact ⟨_, ((((rd_T204 l0 x18_2).f0) == 9)), zR, H', ⟨by have := HJ2.out; have := HK2.out; have := HJ22.out; first | omega | exact Nat.le_refl _⟩, ⟨zM BK284⟩, ⟨zB⟩⟩
        rw [if_pos c37] at H
        have c37b0 : (((rd_T204 l0 x18_2).f0) == 8) = true := beq_iff_eq.mpr c37
        have c37b1 : (((rd_T204 l0 x18_2).f0) != 8) = false := bne_eq_false_iff_eq.mpr c37
        clear c37
        have H' := zK H
        clear H
        go_wp2
        go_meet
        case rel => exact ⟨_, ((((rd_T204 l0 x18_2).f0) == 8)), zR, H', ⟨by have := HJ2.out; have := HK2.out; have := HJ22.out; first | omega | exact Nat.le_refl _⟩, ⟨zM BK284⟩, ⟨zB⟩⟩
       case rest =>
        clear HC34
        try clear c1
        try clear c2
        try clear p2
        try clear q2
        try clear hx2
        try clear c3
        try clear c4
        try clear c4b0
        try clear c4b1
        try clear c5
        try clear c6
        try clear c6b0
        try clear c7
        try clear c7b0
        try clear c8
        try clear c8b0
        try clear c12
        try clear c12b0
        try clear c12b1
        try clear c13
        try clear c13b0
        try clear c14
        try clear c14b0
        try clear c15
        try clear c18
        try clear c18b0
        try clear c18b1
        try clear c20
        try clear c24
        try clear c24b0
        try clear c24b1
        try clear c25
        try clear c25b0
        try clear c25b1
        try clear c26
        try clear c27
        try clear c27b0
        try clear c28
        try clear c28b0
        try clear p28
        try clear q28
        try clear hx28
        try clear c29
        try clear c29b0
        try clear c35
        try clear c35b0
        try clear c35b1
        try clear c36
        try clear c36b0
        try clear c36b1
        try clear c37
        try clear c37b0
        try clear c37b1
        try clear hcz11_0 hcz11_1 hcz11_2 hfz11_0 hfz11_1 hfz11_2
        try clear hcz15_0 hcz15_1 hcz15_2 hfz15_0 hfz15_1 hfz15_2
        try clear hcz16_0 hcz16_1 hcz16_2 hfz16_0 hfz16_1 hfz16_2
        try clear hcz17_0 hcz17_1 hcz17_2 hfz17_0 hfz17_1 hfz17_2
        try clear hcz21_0 hcz21_1 hcz21_2 hfz21_0 hfz21_1 hfz21_2
        try clear hcz22_0 hcz22_1 hcz22_2 hfz22_0 hfz22_1 hfz22_2
        try clear hcz30_0 hcz30_1 hcz30_2 hfz30_0 hfz30_1 hfz30_2
        try clear hcz31_0 hcz31_1 hcz31_2 hfz31_0 hfz31_1 hfz31_2
        try clear hcz32_0 hcz32_1 hcz32_2 hfz32_0 hfz32_1 hfz32_2
        try clear hcz33_0 hcz33_1 hcz33_2 hfz33_0 hfz33_1 hfz33_2
        try clear hx283_0
        try clear hx283_1
        try clear hx283_2
        try clear p2
        try clear p283
        try clear q2
        try clear q283
        obtain ⟨kq, x75_33, rfl, HA, HJ33, BK284, HB⟩ := hcut
        cases kq with
        | zero => exact absurd HA.out (by simp [impl_codeOk.j3])
        | succ kj33 =>
         have H := HA.out
         clear HA
         simp only [impl_codeOk.j3] at H
         by_cases c38 : x75_33 = true
         rotate_left
         · replace c38 := Bool.eq_false_iff.mpr c38
           subst c38
           have H1 : (impl_codeOk.j4 kj33 a1 false l0 (l0.length : Int) x18_2) = some r := by rw [if_neg (show ¬ (false = true) by decide)] at H; exact H
           clear H
           have H := H1
           clear H1
           have H' := zK H
           clear H
           go_wp2
           go_meet
           case rel => exact ⟨_, (false), zR, H', ⟨by have := HJ2.out; have := HK2.out; have := HJ22.out; have := HJ33.out; first | omega | exact Nat.le_refl _⟩, ⟨zM BK284⟩, ⟨zB⟩⟩
         subst c38
         have H1 : (if ((rd_T204 l0 x18_2).f1) ≥ 0 then (if ((rd_T204 l0 x18_2).f1) < x18_2 then (impl_codeOk.j4 kj33 a1 (((rd_T204 l0 x18_2).f2) == 0) l0 (l0.length : Int) x18_2) else (impl_codeOk.j4 kj33 a1 false l0 (l0.length : Int) x18_2)) else (impl_codeOk.j4 kj33 a1 false l0 (l0.length : Int) x18_2)) = some r := by rw [if_pos rfl] at H; exact H
         clear H
         have H := H1
         clear H1
         by_cases c39 : ((rd_T204 l0 x18_2).f1) ≥ 0
         rotate_left
         · rw [if_neg c39] at H
           have c39b0 : decide (0 ≤ ((rd_T204 l0 x18_2).f1)) = false := decide_eq_false c39
           clear c39
           have H' := zK H
           clear H
           have hcz43_0 : wc.cell? ⟨gb284, 0, none⟩ = some (.int .i64 ((rd_T204 l0 x18_2).f0)) := zy BK284 0
           have hcz43_1 : wc.cell? ⟨gb284, 1, none⟩ = some (.int .i64 ((rd_T204 l0 x18_2).f1)) := zy BK284 1
           have hcz43_2 : wc.cell? ⟨gb284, 2, none⟩ = some (.int .i64 ((rd_T204 l0 x18_2).f2)) := zy BK284 2
           have hfz43_0 := zf BK284.out 0
           have hfz43_1 := zf BK284.out 1
           have hfz43_2 := zf BK284.out 2
           go_wp2
           go_meet
           case rel => exact ⟨_, (false), zR, H', ⟨by have := HJ2.out; have := HK2.out; have := HJ22.out; have := HJ33.out; first | omega | exact Nat.le_refl _⟩, ⟨zM BK284⟩, ⟨zB⟩⟩
         rw [if_pos c39] at H
         have c39b0 : decide (0 ≤ ((rd_T204 l0 x18_2).f1)) = true := decide_eq_true c39
         clear c39
         by_cases c40 : ((rd_T204 l0 x18_2).f1) < x18_2
         rotate_left
         · rw [if_neg c40] at H
           have c40b0 : decide (((rd_T204 l0 x18_2).f1) < x18_2) = false := decide_eq_false c40
           clear c40
           have H' := zK H
           clear H
           have hcz42_0 : wc.cell? ⟨gb284, 0, none⟩ = some (.int .i64 ((rd_T204 l0 x18_2).f0)) := zy BK284 0
           have hcz42_1 : wc.cell? ⟨gb284, 1, none⟩ = some (.int .i64 ((rd_T204 l0 x18_2).f1)) := zy BK284 1
           have hcz42_2 : wc.cell? ⟨gb284, 2, none⟩ = some (.int .i64 ((rd_T204 l0 x18_2).f2)) := zy BK284 2
           have hfz42_0 := zf BK284.out 0
           have hfz42_1 := zf BK284.out 1
           have hfz42_2 := zf BK284.out 2
           go_wp2
           go_meet
           case rel => exact ⟨_, (false), zR, H', ⟨by have := HJ2.out; have := HK2.out; have := HJ22.out; have := HJ33.out; first | omega | exact Nat.le_refl _⟩, ⟨zM BK284⟩, ⟨zB⟩⟩
         rw [if_pos c40] at H
         have c40b0 : decide (((rd_T204 l0 x18_2).f1) < x18_2) = true := decide_eq_true c40
         clear c40
         have H' := zK H
         clear H
         have hcz41_0 : wc.cell? ⟨gb284, 0, none⟩ = some (.int .i64 ((rd_T204 l0 x18_2).f0)) := zy BK284 0
         have hcz41_1 : wc.cell? ⟨gb284, 1, none⟩ = some (.int .i64 ((rd_T204 l0 x18_2).f1)) := zy BK284 1
         have hcz41_2 : wc.cell? ⟨gb284, 2, none⟩ = some (.int .i64 ((rd_T204 l0 x18_2).f2)) := zy BK284 2
         have hfz41_0 := zf BK284.out 0
         have hfz41_1 := zf BK284.out 1
         have hfz41_2 := zf BK284.out 2
         go_wp2
         go_meet
         case rel => exact ⟨_, ((((rd_T204 l0 x18_2).f2) == 0)), zR, H', ⟨by have := HJ2.out; have := HK2.out; have := HJ22.out; have := HJ33.out; first | omega | exact Nat.le_refl _⟩, ⟨zM BK284⟩, ⟨zB⟩⟩
    case rest =>
     clear HC9
     try clear c1
     try clear c2
     try clear p2
     try clear q2
     try clear hx2
     try clear c3
     try clear c4
     try clear c4b0
     try clear c4b1
     try clear c5
     try clear c6
     try clear c6b0
     try clear c7
     try clear c7b0
     try clear c8
     try clear c8b0
     try clear c12
     try clear c12b0
     try clear c12b1
     try clear c13
     try clear c13b0
     try clear c14
     try clear c14b0
     try clear c15
     try clear c18
     try clear c18b0
     try clear c18b1
     try clear c20
     try clear c24
     try clear c24b0
     try clear c24b1
     try clear c25
     try clear c25b0
     try clear c25b1
     try clear c26
     try clear c27
     try clear c27b0
     try clear c28
     try clear c28b0
     try clear p28
     try clear q28
     try clear hx28
     try clear c29
     try clear c29b0
     try clear c35
     try clear c35b0
     try clear c35b1
     try clear c36
     try clear c36b0
     try clear c36b1
     try clear c37
     try clear c37b0
     try clear c37b1
     try clear c38
     try clear c39
     try clear c39b0
     try clear c40
     try clear c40b0
     try clear hcz11_0 hcz11_1 hcz11_2 hfz11_0 hfz11_1 hfz11_2
     try clear hcz15_0 hcz15_1 hcz15_2 hfz15_0 hfz15_1 hfz15_2
     try clear hcz16_0 hcz16_1 hcz16_2 hfz16_0 hfz16_1 hfz16_2
     try clear hcz17_0 hcz17_1 hcz17_2 hfz17_0 hfz17_1 hfz17_2
     try clear hcz21_0 hcz21_1 hcz21_2 hfz21_0 hfz21_1 hfz21_2
     try clear hcz22_0 hcz22_1 hcz22_2 hfz22_0 hfz22_1 hfz22_2
     try clear hcz30_0 hcz30_1 hcz30_2 hfz30_0 hfz30_1 hfz30_2
     try clear hcz31_0 hcz31_1 hcz31_2 hfz31_0 hfz31_1 hfz31_2
     try clear hcz32_0 hcz32_1 hcz32_2 hfz32_0 hfz32_1 hfz32_2
     try clear hcz33_0 hcz33_1 hcz33_2 hfz33_0 hfz33_1 hfz33_2
     try clear hcz41_0 hcz41_1 hcz41_2 hfz41_0 hfz41_1 hfz41_2
     try clear hcz42_0 hcz42_1 hcz42_2 hfz42_0 hfz42_1 hfz42_2
     try clear hcz43_0 hcz43_1 hcz43_2 hfz43_0 hfz43_1 hfz43_2
     try clear hx283_0
     try clear hx283_1
     try clear hx283_2
     try clear p2
     try clear p28
     try clear p283
     try clear q2
     try clear q28
     try clear q283
     obtain ⟨kq, x7_8, rfl, HA, HJ8, BK284, HB⟩ := hcut
     cases kq with
     | zero => exact absurd HA.out (by simp [impl_codeOk.j4])
     | succ kj8 =>
      have H := HA.out
      clear HA
      simp only [impl_codeOk.j4] at H
      by_cases c44 : x7_8 = true
      rotate_left
      · replace c44 := Bool.eq_false_iff.mpr c44
        subst c44
        have H1 : (some false) = some r := by rw [if_neg (show ¬ (false = true) by decide)] at H; exact H
        clear H
        have H := H1
        clear H1
        obtain rfl := Option.some.inj H
        go_wp2
        go_ret
        exact ⟨zE, zB⟩
      subst c44
      have H1 : (impl_codeOk.l0 kj8 a1 l0 (l0.length : Int) (wrap64 (x18_2 + 1))) = some r := by rw [if_pos rfl] at H; exact H
      clear H
      have H := H1
      clear H1
      have H' := zK H
      clear H
      go_wp2
      go_roundg kj8
      case measure => have := HJ2.out; have := HK2.out; have := HJ8.out; omega
      case rel => exact ⟨(wrap64 (x18_2 + 1)), zR, H', ⟨by have := HJ2.out; have := HK2.out; have := HJ8.out; omega⟩, ⟨zB⟩⟩

end Go.Proofs.Ytkfagiojcjnfkaa.PFnExactNestOk
