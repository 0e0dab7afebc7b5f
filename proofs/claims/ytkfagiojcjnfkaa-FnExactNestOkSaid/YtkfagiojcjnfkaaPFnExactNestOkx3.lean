-- Printed out of the translation by this session's own turned copy of a printer; Lean checks it.
import Derived.Test.YtkfagiojcjnfkaaPFnExactNestOkx0
namespace Go.Proofs.Ytkfagiojcjnfkaa.PFnExactNestOk
open Go.RowKit Go.Proofs.YtkfagiojcjnfkaaW.PrintWords Go.Proofs.YtkfagiojcjnfkaaW.PrintLast Go.Proofs.YtkfagiojcjnfkaaW.PrintMore
attribute [local go_sem] max2_int min2_int max_two min_two max_three min_three max_four min_four   -- for this text's walks alone
set_option linter.unusedVariables false
set_option linter.unusedSimpArgs false

/-! ### spec_l11Code: function 146 -/
mutual
def spec_l11Code.j0 : Nat → List (S204) → Int → Bool → Option (Bool)
  | 0, _, _, _ => none
  | k + 1, x0, x1, x15 => if x15 = true then (some false) else (spec_l11Code.l0 k x0 x1 0)
def spec_l11Code.l0 : Nat → List (S204) → Int → Int → Option (Bool)
  | 0, _, _, _ => none
  | k + 1, x0, x1, x5 => if x5 < (x0.length : Int) then (if 0 ≤ x5 then (if ((rd_T204 x0 x5).f0) = 1 then (if ((rd_T204 x0 x5).f1) ≥ 0 then (if ((rd_T204 x0 x5).f1) < x1 then (spec_l11Code.j4 k x0 x1 x5 (((rd_T204 x0 x5).f2) == 0)) else (spec_l11Code.j4 k x0 x1 x5 false)) else (spec_l11Code.j4 k x0 x1 x5 false)) else (if ((rd_T204 x0 x5).f0) = 2 then (if ((rd_T204 x0 x5).f1) ≥ 0 then (if ((rd_T204 x0 x5).f1) < 2147483647 then (spec_l11Code.j4 k x0 x1 x5 (((rd_T204 x0 x5).f2) == 0)) else (spec_l11Code.j4 k x0 x1 x5 false)) else (spec_l11Code.j4 k x0 x1 x5 false)) else (if ((rd_T204 x0 x5).f0) = 3 then (spec_l11Code.j2 k x0 x1 x5 false ((rd_T204 x0 x5).f0) (((rd_T204 x0 x5).f0) == 3) ((rd_T204 x0 x5).f0) ((rd_T204 x0 x5).f1) ((rd_T204 x0 x5).f2)) else (if ((rd_T204 x0 x5).f0) = 4 then (spec_l11Code.j2 k x0 x1 x5 false ((rd_T204 x0 x5).f0) (((rd_T204 x0 x5).f0) == 4) ((rd_T204 x0 x5).f0) ((rd_T204 x0 x5).f1) ((rd_T204 x0 x5).f2)) else (spec_l11Code.j2 k x0 x1 x5 false ((rd_T204 x0 x5).f0) (((rd_T204 x0 x5).f0) == 5) ((rd_T204 x0 x5).f0) ((rd_T204 x0 x5).f1) ((rd_T204 x0 x5).f2)))))) else (none)) else (some true)
def spec_l11Code.j4 : Nat → List (S204) → Int → Int → Bool → Option (Bool)
  | 0, _, _, _, _ => none
  | k + 1, x0, x1, x5, x7 => if x7 = true then (spec_l11Code.l0 k x0 x1 (wrap64 (x5 + 1))) else (some false)
def spec_l11Code.j2 : Nat → List (S204) → Int → Int → Bool → Int → Bool → Int → Int → Int → Option (Bool)
  | 0, _, _, _, _, _, _, _, _, _ => none
  | k + 1, x0, x1, x5, x7, x27, x59, x133000, x133001, x133002 => if x59 = true then (if x133001 ≥ 0 then (if x133001 < x5 then (if x133002 ≥ 0 then (spec_l11Code.j4 k x0 x1 x5 (decide (x133002 < x5))) else (spec_l11Code.j4 k x0 x1 x5 false)) else (spec_l11Code.j4 k x0 x1 x5 false)) else (spec_l11Code.j4 k x0 x1 x5 false)) else (if x27 = 6 then (spec_l11Code.j3 k x0 x1 x5 x7 (x27 == 6) x133000 x133001 x133002) else (if x27 = 7 then (spec_l11Code.j3 k x0 x1 x5 x7 (x27 == 7) x133000 x133001 x133002) else (if x27 = 8 then (spec_l11Code.j3 k x0 x1 x5 x7 (x27 == 8) x133000 x133001 x133002) else (spec_l11Code.j3 k x0 x1 x5 x7 (x27 == 9) x133000 x133001 x133002))))
def spec_l11Code.j3 : Nat → List (S204) → Int → Int → Bool → Bool → Int → Int → Int → Option (Bool)
  | 0, _, _, _, _, _, _, _, _ => none
  | k + 1, x0, x1, x5, x7, x83, x133000, x133001, x133002 => if x83 = true then (if x133001 ≥ 0 then (if x133001 < x5 then (spec_l11Code.j4 k x0 x1 x5 (x133002 == 0)) else (spec_l11Code.j4 k x0 x1 x5 false)) else (spec_l11Code.j4 k x0 x1 x5 false)) else (spec_l11Code.j4 k x0 x1 x5 x7)
end
def spec_l11Code.f (k : Nat) (l0 : List (S204)) (a1 : Int) : Option (Bool) := if (l0.length : Int) < 1 then (spec_l11Code.j0 k l0 a1 true) else (spec_l11Code.j0 k l0 a1 (decide ((l0.length : Int) > 60)))
theorem spec_l11Code.mono_l : ∀ k, (∀ y0 y1 y2, LeO (spec_l11Code.j0 k y0 y1 y2) (spec_l11Code.j0 (k + 1) y0 y1 y2)) ∧ (∀ y0 y1 y2, LeO (spec_l11Code.l0 k y0 y1 y2) (spec_l11Code.l0 (k + 1) y0 y1 y2)) ∧ (∀ y0 y1 y2 y3, LeO (spec_l11Code.j4 k y0 y1 y2 y3) (spec_l11Code.j4 (k + 1) y0 y1 y2 y3)) ∧ (∀ y0 y1 y2 y3 y4 y5 y6 y7 y8, LeO (spec_l11Code.j2 k y0 y1 y2 y3 y4 y5 y6 y7 y8) (spec_l11Code.j2 (k + 1) y0 y1 y2 y3 y4 y5 y6 y7 y8)) ∧ (∀ y0 y1 y2 y3 y4 y5 y6 y7, LeO (spec_l11Code.j3 k y0 y1 y2 y3 y4 y5 y6 y7) (spec_l11Code.j3 (k + 1) y0 y1 y2 y3 y4 y5 y6 y7))
  | 0 => ⟨fun _ _ _ r h => by simp [spec_l11Code.j0] at h, fun _ _ _ r h => by simp [spec_l11Code.l0] at h, fun _ _ _ _ r h => by simp [spec_l11Code.j4] at h, fun _ _ _ _ _ _ _ _ _ r h => by simp [spec_l11Code.j2] at h, fun _ _ _ _ _ _ _ _ r h => by simp [spec_l11Code.j3] at h⟩
  | k + 1 => by
    obtain ⟨ih0, ih1, ih2, ih3, ih4⟩ := spec_l11Code.mono_l k
    refine ⟨?_, ?_, ?_, ?_, ?_⟩
    all_goals (intros; first | unfold spec_l11Code.j0 | unfold spec_l11Code.l0 | unfold spec_l11Code.j4 | unfold spec_l11Code.j2 | unfold spec_l11Code.j3)
    all_goals repeat' first
      | (with_reducible exact ih0 _ _ _)
      | (with_reducible exact ih1 _ _ _)
      | (with_reducible exact ih2 _ _ _ _)
      | (with_reducible exact ih3 _ _ _ _ _ _ _ _ _)
      | (with_reducible exact ih4 _ _ _ _ _ _ _ _)
      | (with_reducible exact LeO.refl _)
      | (with_reducible exact LeO.none _)
      | (with_reducible refine LeO.ite ?_ ?_)
      | (with_reducible refine LeO.bind ?_ (fun _ => ?_))
      | exact ih0 _ _ _
      | exact ih1 _ _ _
      | exact ih2 _ _ _ _
      | exact ih3 _ _ _ _ _ _ _ _ _
      | exact ih4 _ _ _ _ _ _ _ _
      | exact LeO.none _
      | refine LeO.ite ?_ ?_
      | refine LeO.bind ?_ (fun _ => ?_)
theorem spec_l11Code.mono : ∀ a0 a1 k, LeO (spec_l11Code.f k a0 a1) (spec_l11Code.f (k + 1) a0 a1) := by
  intro a0 a1 k
  obtain ⟨ih0, ih1, ih2, ih3, ih4⟩ := spec_l11Code.mono_l k
  unfold spec_l11Code.f
  repeat' first
      | (with_reducible exact ih0 _ _ _)
      | (with_reducible exact ih1 _ _ _)
      | (with_reducible exact ih2 _ _ _ _)
      | (with_reducible exact ih3 _ _ _ _ _ _ _ _ _)
      | (with_reducible exact ih4 _ _ _ _ _ _ _ _)
      | (with_reducible exact LeO.refl _)
      | (with_reducible exact LeO.none _)
      | (with_reducible refine LeO.ite ?_ ?_)
      | (with_reducible refine LeO.bind ?_ (fun _ => ?_))
      | exact ih0 _ _ _
      | exact ih1 _ _ _
      | exact ih2 _ _ _ _
      | exact ih3 _ _ _ _ _ _ _ _ _
      | exact ih4 _ _ _ _ _ _ _ _
      | exact LeO.none _
      | refine LeO.ite ?_ ?_
      | refine LeO.bind ?_ (fun _ => ?_)
set_option maxHeartbeats 8000000 in
set_option maxRecDepth 100000 in
theorem spec_l11Code.calls (k : Nat) (A0 : Option Addr) (c0 : Nat) (l0 : List (S204)) (a1 : Int) (r : Bool) (w : World) (hr0 : Kd.C k204 w A0 l0.length l0) (hc0 : l0.length ≤ c0) (h : spec_l11Code.f k l0 a1 = some r) :
    Calls Try.prog 146 #[.slice A0 l0.length c0, .int .i64 a1] w fun e w' => e = .returned (.bool r) ∧ Below w.heap.size w w' := by
  have hu204 := Try.underlying204
  have HR0 := zK hr0
  have HC0 := zK hc0
  clear hr0 hc0
  have HB := zK (Below.refl w.heap.size w)
  have H : (if (l0.length : Int) < 1 then (spec_l11Code.j0 k l0 a1 true) else (spec_l11Code.j0 k l0 a1 (decide ((l0.length : Int) > 60)))) = some r := h
  clear h
  have HC3 := zK H
  clear H
  go_enter Try.func146, Try.ntmps146
  go_upto_region 1 with (fail)
  go_cut [15] (fun v15 wc => ∃ (kq : Nat) (x15_2 : Bool), v15 = .bool x15_2 ∧ Aside0 (spec_l11Code.j0 kq l0 a1 x15_2 = some r) ∧ Aside0 (kq ≤ k) ∧ Aside0 (Below w.heap.size w wc))
  case first =>
   have H := HC3.out
   clear HC3
   by_cases c4 : (l0.length : Int) < 1
   · rw [if_pos c4] at H
     have c4b0 : decide ((l0.length : Int) < 1) = true := decide_eq_true c4
     have c4b1 : decide (l0.length < 1) = true := decide_eq_true (by omega)
     clear c4
     (first | rw [c4b0] | (simp only [i64_w, i32_w]; rw [c4b0]) | skip)
     have H' := zK H
     clear H
     go_wp2
     go_meet
     case rel => exact ⟨_, (true), zR, H', ⟨by first | omega | exact Nat.le_refl _⟩, ⟨zB⟩⟩
   rw [if_neg c4] at H
   have c4b0 : decide ((l0.length : Int) < 1) = false := decide_eq_false c4
   have c4b1 : decide (l0.length < 1) = false := decide_eq_false (by omega)
   clear c4
   (first | rw [c4b0] | (simp only [i64_w, i32_w]; rw [c4b0]) | skip)
   have H' := zK H
   clear H
   go_wp2
   go_meet
   case rel => exact ⟨_, (decide ((l0.length : Int) > 60)), zR, H', ⟨by first | omega | exact Nat.le_refl _⟩, ⟨zB⟩⟩
  case rest =>
   clear HC3
   try clear c1
   try clear p2
   try clear c4
   try clear c4b0
   try clear c4b1
   obtain ⟨kq, x15_2, rfl, HA, HJ2, HB⟩ := hcut
   cases kq with
   | zero => exact absurd HA.out (by simp [spec_l11Code.j0])
   | succ kj2 =>
    have H := HA.out
    clear HA
    simp only [spec_l11Code.j0] at H
    by_cases c5 : x15_2 = true
    · subst c5
      have H1 : (some false) = some r := by rw [if_pos rfl] at H; exact H
      clear H
      have H := H1
      clear H1
      obtain rfl := Option.some.inj H
      go_wp2
      go_ret
      exact ⟨zE, zB⟩
    replace c5 := Bool.eq_false_iff.mpr c5
    subst c5
    have H1 : (spec_l11Code.l0 kj2 l0 a1 0) = some r := by rw [if_neg (show ¬ (false = true) by decide)] at H; exact H
    clear H
    have H := H1
    clear H1
    have H' := zK H
    clear H
    go_wp2
    go_loopg [5] kj2 (fun kq v5 w' => ∃ (x5_2 : Int), v5 = .int .i64 x5_2 ∧ Aside0 (spec_l11Code.l0 kq l0 a1 x5_2 = some r) ∧ Aside0 (kq ≤ kj2) ∧ Aside0 (Below w.heap.size w w'))
    case atStart => exact ⟨(0), zR, H', ⟨Nat.le_refl _⟩, ⟨zB⟩⟩
    clear H'
    try clear c1
    try clear p2
    try clear c4
    try clear c4b0
    try clear c4b1
    try clear c5
    try clear p2
    obtain ⟨x5_2, rfl, HA, HK2, HB⟩ := hrel
    rcases gk with _ | k2
    · exact absurd HA.out (by simp [spec_l11Code.l0])
    have H := HA.out
    clear HA
    simp only [spec_l11Code.l0] at H
    by_cases c6 : x5_2 < (l0.length : Int)
    rotate_left
    · rw [if_neg c6] at H
      have c6b0 : decide (x5_2 < (l0.length : Int)) = false := decide_eq_false c6
      clear c6
      obtain rfl := Option.some.inj H
      go_wp2
      go_ret
      exact ⟨zE, zB⟩
    rw [if_pos c6] at H
    have c6b0 : decide (x5_2 < (l0.length : Int)) = true := decide_eq_true c6
    clear c6
    by_cases c7 : 0 ≤ x5_2
    rotate_left
    · rw [if_neg c7] at H
      exact absurd H (by simp)
    rw [if_pos c7] at H
    have c7b0 : decide (0 ≤ x5_2) = true := decide_eq_true c7
    clear c7
    have HC8 := zK H
    clear H
    have p131 : 0 ≤ (x5_2 : Int) := of_decide_eq_true zA
    have q131 : x5_2 < (l0.length : Int) := of_decide_eq_true zA
    obtain ⟨ad131, e131, hx131_0, hx131_1, hx131_2⟩ := at_T204 HR0.out x5_2 p131 q131
    cases e131
    (try replace hx131_0 := zX HB hx131_0)
    (try replace hx131_1 := zX HB hx131_1)
    (try replace hx131_2 := zX HB hx131_2)
    replace p131 := eq_true p131
    replace q131 := eq_true q131
    go_upto_block 2 with (first | ((with_reducible refine gate_dst (N := 6) rfl ?_); (try (refine gate_guard (by rfl) ?_; dsimp only)); refine zJ 6 #[.int .i64 0, .int .i64 0, .int .i64 0] 204 ?_; intro gb132 hg w9 hbox hb; have n0_ := zK (zp zB hb); have n1_ := zK (hbox); have n2_ := zK (zI hg zB); have n3_ := zK (zI hg zB); clear HB; have HB := n0_; have BK132 := n1_; have GW132 := n2_; have GE132 := n3_; clear n0_ n1_ n2_ n3_; clear hb hbox hg; obtain ⟨hcz10_0, hcz10_1, hcz10_2, hfz10_0, hfz10_1, hfz10_2⟩ := zc3 BK132))
    (try simp only [Act.put, zq1, zq2, zq3])
    go_cut [7] (fun v7 wc => ∃ (kq : Nat) (x7_7 : Bool), v7 = .bool x7_7 ∧ Aside0 (spec_l11Code.j4 kq l0 a1 x5_2 x7_7 = some r) ∧ Aside0 (kq ≤ k2) ∧ Aside0 (wc.heap[gb132]? = some (.cells #[.int .i64 ((rd_T204 l0 x5_2).f0), .int .i64 ((rd_T204 l0 x5_2).f1), .int .i64 ((rd_T204 l0 x5_2).f2)] 204 (0, 0))) ∧ Aside0 (Below w.heap.size w wc))
    case first =>
     have H := HC8.out
     clear HC8
     by_cases c11 : ((rd_T204 l0 x5_2).f0) = 1
     · rw [if_pos c11] at H
       have c11b0 : (((rd_T204 l0 x5_2).f0) == 1) = true := beq_iff_eq.mpr c11
       have c11b1 : (((rd_T204 l0 x5_2).f0) != 1) = false := bne_eq_false_iff_eq.mpr c11
       clear c11
       (first | rw [c11b0] | (simp only [i64_w, i32_w]; rw [c11b0]) | skip)
       by_cases c12 : ((rd_T204 l0 x5_2).f1) ≥ 0
       rotate_left
       · rw [if_neg c12] at H
         have c12b0 : decide (0 ≤ ((rd_T204 l0 x5_2).f1)) = false := decide_eq_false c12
         clear c12
         have H' := zK H
         clear H
         obtain ⟨hcz16_0, hcz16_1, hcz16_2, hfz16_0, hfz16_1, hfz16_2⟩ := zc3 BK132
         go_wp2
         go_meet
         case rel => exact ⟨_, (false), zR, H', ⟨by have := HJ2.out; have := HK2.out; first | omega | exact Nat.le_refl _⟩, ⟨by (with_reducible repeat (first | refine zn ?_ _ | refine zd ?_ | refine za ?_ _)); refine blk_put (cs := #[.int .i64 ((rd_T204 l0 x5_2).f0), .int .i64 ((rd_T204 l0 x5_2).f1), .int .i64 0]) ?_ 2 _ rfl; (with_reducible repeat (first | refine zn ?_ _ | refine zd ?_ | refine za ?_ _)); refine blk_put (cs := #[.int .i64 ((rd_T204 l0 x5_2).f0), .int .i64 0, .int .i64 0]) ?_ 1 _ rfl; (with_reducible repeat (first | refine zn ?_ _ | refine zd ?_ | refine za ?_ _)); refine blk_put (cs := #[.int .i64 0, .int .i64 0, .int .i64 0]) ?_ 0 _ rfl; (with_reducible repeat (first | refine zn ?_ _ | refine zd ?_ | refine za ?_ _)); exact BK132.out⟩, ⟨zB⟩⟩
       rw [if_pos c12] at H
       have c12b0 : decide (0 ≤ ((rd_T204 l0 x5_2).f1)) = true := decide_eq_true c12
       clear c12
       by_cases c13 : ((rd_T204 l0 x5_2).f1) < a1
       rotate_left
       · rw [if_neg c13] at H
         have c13b0 : decide (((rd_T204 l0 x5_2).f1) < a1) = false := decide_eq_false c13
         clear c13
         have H' := zK H
         clear H
         obtain ⟨hcz15_0, hcz15_1, hcz15_2, hfz15_0, hfz15_1, hfz15_2⟩ := zc3 BK132
         go_wp2
         go_meet
         case rel => exact ⟨_, (false), zR, H', ⟨by have := HJ2.out; have := HK2.out; first | omega | exact Nat.le_refl _⟩, ⟨by (with_reducible repeat (first | refine zn ?_ _ | refine zd ?_ | refine za ?_ _)); refine blk_put (cs := #[.int .i64 ((rd_T204 l0 x5_2).f0), .int .i64 ((rd_T204 l0 x5_2).f1), .int .i64 0]) ?_ 2 _ rfl; (with_reducible repeat (first | refine zn ?_ _ | refine zd ?_ | refine za ?_ _)); refine blk_put (cs := #[.int .i64 ((rd_T204 l0 x5_2).f0), .int .i64 0, .int .i64 0]) ?_ 1 _ rfl; (with_reducible repeat (first | refine zn ?_ _ | refine zd ?_ | refine za ?_ _)); refine blk_put (cs := #[.int .i64 0, .int .i64 0, .int .i64 0]) ?_ 0 _ rfl; (with_reducible repeat (first | refine zn ?_ _ | refine zd ?_ | refine za ?_ _)); exact BK132.out⟩, ⟨zB⟩⟩
       rw [if_pos c13] at H
       have c13b0 : decide (((rd_T204 l0 x5_2).f1) < a1) = true := decide_eq_true c13
       clear c13
       have H' := zK H
       clear H
       obtain ⟨hcz14_0, hcz14_1, hcz14_2, hfz14_0, hfz14_1, hfz14_2⟩ := zc3 BK132
       go_wp2
       go_meet
       case rel => exact ⟨_, ((((rd_T204 l0 x5_2).f2) == 0)), zR, H', ⟨by have := HJ2.out; have := HK2.out; first | omega | exact Nat.le_refl _⟩, ⟨by (with_reducible repeat (first | refine zn ?_ _ | refine zd ?_ | refine za ?_ _)); refine blk_put (cs := #[.int .i64 ((rd_T204 l0 x5_2).f0), .int .i64 ((rd_T204 l0 x5_2).f1), .int .i64 0]) ?_ 2 _ rfl; (with_reducible repeat (first | refine zn ?_ _ | refine zd ?_ | refine za ?_ _)); refine blk_put (cs := #[.int .i64 ((rd_T204 l0 x5_2).f0), .int .i64 0, .int .i64 0]) ?_ 1 _ rfl; (with_reducible repeat (first | refine zn ?_ _ | refine zd ?_ | refine za ?_ _)); refine blk_put (cs := #[.int .i64 0, .int .i64 0, .int .i64 0]) ?_ 0 _ rfl; (with_reducible repeat (first | refine zn ?_ _ | refine zd ?_ | refine za ?_ _)); exact BK132.out⟩, ⟨zB⟩⟩
     rw [if_neg c11] at H
     have c11b0 : (((rd_T204 l0 x5_2).f0) == 1) = false := beq_eq_false_iff_ne.mpr c11
     have c11b1 : (((rd_T204 l0 x5_2).f0) != 1) = true := bne_iff_ne.mpr c11
     (first | rw [c11b0] | (simp only [i64_w, i32_w]; rw [c11b0]) | skip)
     by_cases c17 : ((rd_T204 l0 x5_2).f0) = 2
     · rw [if_pos c17] at H
       have c17b0 : (((rd_T204 l0 x5_2).f0) == 2) = true := beq_iff_eq.mpr c17
       have c17b1 : (((rd_T204 l0 x5_2).f0) != 2) = false := bne_eq_false_iff_eq.mpr c17
       clear c17
       by_cases c18 : ((rd_T204 l0 x5_2).f1) ≥ 0
       rotate_left
       · rw [if_neg c18] at H
         have c18b0 : decide (0 ≤ ((rd_T204 l0 x5_2).f1)) = false := decide_eq_false c18
         clear c18
         have H' := zK H
         clear H
         obtain ⟨hcz22_0, hcz22_1, hcz22_2, hfz22_0, hfz22_1, hfz22_2⟩ := zc3 BK132
         go_wp2
         go_meet
         case rel => exact ⟨_, (false), zR, H', ⟨by have := HJ2.out; have := HK2.out; first | omega | exact Nat.le_refl _⟩, ⟨by (with_reducible repeat (first | refine zn ?_ _ | refine zd ?_ | refine za ?_ _)); refine blk_put (cs := #[.int .i64 ((rd_T204 l0 x5_2).f0), .int .i64 ((rd_T204 l0 x5_2).f1), .int .i64 0]) ?_ 2 _ rfl; (with_reducible repeat (first | refine zn ?_ _ | refine zd ?_ | refine za ?_ _)); refine blk_put (cs := #[.int .i64 ((rd_T204 l0 x5_2).f0), .int .i64 0, .int .i64 0]) ?_ 1 _ rfl; (with_reducible repeat (first | refine zn ?_ _ | refine zd ?_ | refine za ?_ _)); refine blk_put (cs := #[.int .i64 0, .int .i64 0, .int .i64 0]) ?_ 0 _ rfl; (with_reducible repeat (first | refine zn ?_ _ | refine zd ?_ | refine za ?_ _)); exact BK132.out⟩, ⟨zB⟩⟩
       rw [if_pos c18] at H
       have c18b0 : decide (0 ≤ ((rd_T204 l0 x5_2).f1)) = true := decide_eq_true c18
       clear c18
       by_cases c19 : ((rd_T204 l0 x5_2).f1) < 2147483647
       rotate_left
       · rw [if_neg c19] at H
         have c19b0 : decide (((rd_T204 l0 x5_2).f1) < 2147483647) = false := decide_eq_false c19
         clear c19
         have H' := zK H
         clear H
         obtain ⟨hcz21_0, hcz21_1, hcz21_2, hfz21_0, hfz21_1, hfz21_2⟩ := zc3 BK132
         go_wp2
         go_meet
         case rel => exact ⟨_, (false), zR, H', ⟨by have := HJ2.out; have := HK2.out; first | omega | exact Nat.le_refl _⟩, ⟨by (with_reducible repeat (first | refine zn ?_ _ | refine zd ?_ | refine za ?_ _)); refine blk_put (cs := #[.int .i64 ((rd_T204 l0 x5_2).f0), .int .i64 ((rd_T204 l0 x5_2).f1), .int .i64 0]) ?_ 2 _ rfl; (with_reducible repeat (first | refine zn ?_ _ | refine zd ?_ | refine za ?_ _)); refine blk_put (cs := #[.int .i64 ((rd_T204 l0 x5_2).f0), .int .i64 0, .int .i64 0]) ?_ 1 _ rfl; (with_reducible repeat (first | refine zn ?_ _ | refine zd ?_ | refine za ?_ _)); refine blk_put (cs := #[.int .i64 0, .int .i64 0, .int .i64 0]) ?_ 0 _ rfl; (with_reducible repeat (first | refine zn ?_ _ | refine zd ?_ | refine za ?_ _)); exact BK132.out⟩, ⟨zB⟩⟩
       rw [if_pos c19] at H
       have c19b0 : decide (((rd_T204 l0 x5_2).f1) < 2147483647) = true := decide_eq_true c19
       clear c19
       have H' := zK H
       clear H
       obtain ⟨hcz20_0, hcz20_1, hcz20_2, hfz20_0, hfz20_1, hfz20_2⟩ := zc3 BK132
       go_wp2
       go_meet
       case rel => exact ⟨_, ((((rd_T204 l0 x5_2).f2) == 0)), zR, H', ⟨by have := HJ2.out; have := HK2.out; first | omega | exact Nat.le_refl _⟩, ⟨by (with_reducible repeat (first | refine zn ?_ _ | refine zd ?_ | refine za ?_ _)); refine blk_put (cs := #[.int .i64 ((rd_T204 l0 x5_2).f0), .int .i64 ((rd_T204 l0 x5_2).f1), .int .i64 0]) ?_ 2 _ rfl; (with_reducible repeat (first | refine zn ?_ _ | refine zd ?_ | refine za ?_ _)); refine blk_put (cs := #[.int .i64 ((rd_T204 l0 x5_2).f0), .int .i64 0, .int .i64 0]) ?_ 1 _ rfl; (with_reducible repeat (first | refine zn ?_ _ | refine zd ?_ | refine za ?_ _)); refine blk_put (cs := #[.int .i64 0, .int .i64 0, .int .i64 0]) ?_ 0 _ rfl; (with_reducible repeat (first | refine zn ?_ _ | refine zd ?_ | refine za ?_ _)); exact BK132.out⟩, ⟨zB⟩⟩
     rw [if_neg c17] at H
     have c17b0 : (((rd_T204 l0 x5_2).f0) == 2) = false := beq_eq_false_iff_ne.mpr c17
     have c17b1 : (((rd_T204 l0 x5_2).f0) != 2) = true := bne_iff_ne.mpr c17
     have HC23 := zK H
     clear H
     go_upto_if 59 with (fail)
     go_cut [59] (fun v59 wc => ∃ (kq : Nat) (x59_22 : Bool), v59 = .bool x59_22 ∧ Aside0 (spec_l11Code.j2 kq l0 a1 x5_2 false ((rd_T204 l0 x5_2).f0) x59_22 ((rd_T204 l0 x5_2).f0) ((rd_T204 l0 x5_2).f1) ((rd_T204 l0 x5_2).f2) = some r) ∧ Aside0 (kq ≤ k2) ∧ Aside0 (wc.heap[gb132]? = some (.cells #[.int .i64 ((rd_T204 l0 x5_2).f0), .int .i64 ((rd_T204 l0 x5_2).f1), .int .i64 ((rd_T204 l0 x5_2).f2)] 204 (0, 0))) ∧ Aside0 (Below w.heap.size w wc))
     case first =>
      have H := HC23.out
      clear HC23
      by_cases c24 : ((rd_T204 l0 x5_2).f0) = 3
      · rw [if_pos c24] at H
        have c24b0 : (((rd_T204 l0 x5_2).f0) == 3) = true := beq_iff_eq.mpr c24
        have c24b1 : (((rd_T204 l0 x5_2).f0) != 3) = false := bne_eq_false_iff_eq.mpr c24
        clear c24
        (first | rw [c24b0] | (simp only [i64_w, i32_w]; rw [c24b0]) | skip)
        have H' := zK H
        clear H
        go_wp2
        go_meet
        case rel => exact ⟨_, ((((rd_T204 l0 x5_2).f0) == 3)), zR, H', ⟨by have := HJ2.out; have := HK2.out; first | omega | exact Nat.le_refl _⟩, ⟨by (with_reducible repeat (first | refine zn ?_ _ | refine zd ?_ | refine za ?_ _)); refine blk_put (cs := #[.int .i64 ((rd_T204 l0 x5_2).f0), .int .i64 ((rd_T204 l0 x5_2).f1), .int .i64 0]) ?_ 2 _ rfl; (with_reducible repeat (first | refine zn ?_ _ | refine zd ?_ | refine za ?_ _)); refine blk_put (cs := #[.int .i64 ((rd_T204 l0 x5_2).f0), .int .i64 0, .int .i64 0]) ?_ 1 _ rfl; (with_reducible repeat (first | refine zn ?_ _ | refine zd ?_ | refine za ?_ _)); refine blk_put (cs := #[.int .i64 0, .int .i64 0, .int .i64 0]) ?_ 0 _ rfl; (with_reducible repeat (first | refine zn ?_ _ | refine zd ?_ | refine za ?_ _)); exact BK132.out⟩, ⟨zB⟩⟩
      rw [if_neg c24] at H
      have c24b0 : (((rd_T204 l0 x5_2).f0) == 3) = false := beq_eq_false_iff_ne.mpr c24
      have c24b1 : (((rd_T204 l0 x5_2).f0) != 3) = true := bne_iff_ne.mpr c24
      (first | rw [c24b0] | (simp only [i64_w, i32_w]; rw [c24b0]) | skip)
      by_cases c25 : ((rd_T204 l0 x5_2).f0) = 4
      rotate_left
      · rw [if_neg c25] at H
        have c25b0 : (((rd_T204 l0 x5_2).f0) == 4) = false := beq_eq_false_iff_ne.mpr c25
        have c25b1 : (((rd_T204 l0 x5_2).f0) != 4) = true := bne_iff_ne.mpr c25
        have H' := zK H
        clear H
        go_wp2
        go_meet
        case rel => exact ⟨_, ((((rd_T204 l0 x5_2).f0) == 5)), zR, H', ⟨by have := HJ2.out; have := HK2.out; first | omega | exact Nat.le_refl _⟩, ⟨by (with_reducible repeat (first | refine zn ?_ _ | refine zd ?_ | refine za ?_ _)); refine blk_put (cs := #[.int .i64 ((rd_T204 l0 x5_2).f0), .int .i64 ((rd_T204 l0 x5_2).f1), .int .i64 0]) ?_ 2 _ rfl; (with_reducible repeat (first | refine zn ?_ _ | refine zd ?_ | refine za ?_ _)); refine blk_put (cs := #[.int .i64 ((rd_T204 l0 x5_2).f0), .int .i64 0, .int .i64 0]) ?_ 1 _ rfl; (with_reducible repeat (first | refine zn ?_ _ | refine zd ?_ | refine za ?_ _)); refine blk_put (cs := #[.int .i64 0, .int .i64 0, .int .i64 0]) ?_ 0 _ rfl; (with_reducible repeat (first | refine zn ?_ _ | refine zd ?_ | refine za ?_ _)); exact BK132.out⟩, ⟨zB⟩⟩
      rw [if_pos c25] at H
      have c25b0 : (((rd_T204 l0 x5_2).f0) == 4) = true := beq_iff_eq.mpr c25
      have c25b1 : (((rd_T204 l0 x5_2).f0) != 4) = false := bne_eq_false_iff_eq.mpr c25
      clear c25
      have H' := zK H
      clear H
      go_wp2
      go_meet
      case rel => exact ⟨_, ((((rd_T204 l0 x5_2).f0) == 4)), zR, H', ⟨by have := HJ2.out; have := HK2.out; first | omega | exact Nat.le_refl _⟩, ⟨by (with_reducible repeat (first | refine zn ?_ _ | refine zd ?_ | refine za ?_ _)); refine blk_put (cs := #[.int .i64 ((rd_T204 l0 x5_2).f0), .int .i64 ((rd_T204 l0 x5_2).f1), .int .i64 0]) ?_ 2 _ rfl; (with_reducible repeat (first | refine zn ?_ _ | refine zd ?_ | refine za ?_ _)); refine blk_put (cs := #[.int .i64 ((rd_T204 l0 x5_2).f0), .int .i64 0, .int .i64 0]) ?_ 1 _ rfl; (with_reducible repeat (first | refine zn ?_ _ | refine zd ?_ | refine za ?_ _)); refine blk_put (cs := #[.int .i64 0, .int .i64 0, .int .i64 0]) ?_ 0 _ rfl; (with_reducible repeat (first | refine zn ?_ _ | refine zd ?_ | refine za ?_ _)); exact BK132.out⟩, ⟨zB⟩⟩
     case rest =>
      clear HC23
      try clear c1
      try clear p1
      try clear q1
      try clear hx1
      try clear c2
      try clear p2
      try clear c4
      try clear c4b0
      try clear c4b1
      try clear c5
      try clear c6
      try clear c6b0
      try clear c7
      try clear c7b0
      try clear c11
      try clear c11b0
      try clear c11b1
      try clear c12
      try clear c12b0
      try clear c13
      try clear c13b0
      try clear p13
      try clear q13
      try clear hx13
      try clear c14
      try clear c17
      try clear c17b0
      try clear c17b1
      try clear c18
      try clear c18b0
      try clear c19
      try clear c19b0
      try clear c24
      try clear c24b0
      try clear c24b1
      try clear c25
      try clear c25b0
      try clear c25b1
      try clear hcz10_0 hcz10_1 hcz10_2 hfz10_0 hfz10_1 hfz10_2
      try clear hcz14_0 hcz14_1 hcz14_2 hfz14_0 hfz14_1 hfz14_2
      try clear hcz15_0 hcz15_1 hcz15_2 hfz15_0 hfz15_1 hfz15_2
      try clear hcz16_0 hcz16_1 hcz16_2 hfz16_0 hfz16_1 hfz16_2
      try clear hcz20_0 hcz20_1 hcz20_2 hfz20_0 hfz20_1 hfz20_2
      try clear hcz21_0 hcz21_1 hcz21_2 hfz21_0 hfz21_1 hfz21_2
      try clear hcz22_0 hcz22_1 hcz22_2 hfz22_0 hfz22_1 hfz22_2
      try clear hx131_0
      try clear hx131_1
      try clear hx131_2
      try clear p131
      try clear p2
      try clear q131
      obtain ⟨kq, x59_22, rfl, HA, HJ22, BK132, HB⟩ := hcut
      cases kq with
      | zero => exact absurd HA.out (by simp [spec_l11Code.j2])
      | succ kj22 =>
       have H := HA.out
       clear HA
       simp only [spec_l11Code.j2] at H
       by_cases c26 : x59_22 = true
       · subst c26
         have H1 : (if ((rd_T204 l0 x5_2).f1) ≥ 0 then (if ((rd_T204 l0 x5_2).f1) < x5_2 then (if ((rd_T204 l0 x5_2).f2) ≥ 0 then (spec_l11Code.j4 kj22 l0 a1 x5_2 (decide (((rd_T204 l0 x5_2).f2) < x5_2))) else (spec_l11Code.j4 kj22 l0 a1 x5_2 false)) else (spec_l11Code.j4 kj22 l0 a1 x5_2 false)) else (spec_l11Code.j4 kj22 l0 a1 x5_2 false)) = some r := by rw [if_pos rfl] at H; exact H
         clear H
         have H := H1
         clear H1
         by_cases c27 : ((rd_T204 l0 x5_2).f1) ≥ 0
         rotate_left
         · rw [if_neg c27] at H
           have c27b0 : decide (0 ≤ ((rd_T204 l0 x5_2).f1)) = false := decide_eq_false c27
           clear c27
           have H' := zK H
           clear H
           have hcz33_0 : wc.cell? ⟨gb132, 0, none⟩ = some (.int .i64 ((rd_T204 l0 x5_2).f0)) := zy BK132 0
           have hcz33_1 : wc.cell? ⟨gb132, 1, none⟩ = some (.int .i64 ((rd_T204 l0 x5_2).f1)) := zy BK132 1
           have hcz33_2 : wc.cell? ⟨gb132, 2, none⟩ = some (.int .i64 ((rd_T204 l0 x5_2).f2)) := zy BK132 2
           have hfz33_0 := zf BK132.out 0
           have hfz33_1 := zf BK132.out 1
           have hfz33_2 := zf BK132.out 2
           go_wp2
           go_meet
           case rel => exact ⟨_, (false), zR, H', ⟨by have := HJ2.out; have := HK2.out; have := HJ22.out; first | omega | exact Nat.le_refl _⟩, ⟨zM BK132⟩, ⟨zB⟩⟩
         rw [if_pos c27] at H
         have c27b0 : decide (0 ≤ ((rd_T204 l0 x5_2).f1)) = true := decide_eq_true c27
         clear c27
         by_cases c28 : ((rd_T204 l0 x5_2).f1) < x5_2
         rotate_left
         · rw [if_neg c28] at H
           have c28b0 : decide (((rd_T204 l0 x5_2).f1) < x5_2) = false := decide_eq_false c28
           clear c28
           have H' := zK H
           clear H
           have hcz32_0 : wc.cell? ⟨gb132, 0, none⟩ = some (.int .i64 ((rd_T204 l0 x5_2).f0)) := zy BK132 0
           have hcz32_1 : wc.cell? ⟨gb132, 1, none⟩ = some (.int .i64 ((rd_T204 l0 x5_2).f1)) := zy BK132 1
           have hcz32_2 : wc.cell? ⟨gb132, 2, none⟩ = some (.int .i64 ((rd_T204 l0 x5_2).f2)) := zy BK132 2
           have hfz32_0 := zf BK132.out 0
           have hfz32_1 := zf BK132.out 1
           have hfz32_2 := zf BK132.out 2
           go_wp2
           go_meet
           case rel => exact ⟨_, (false), zR, H', ⟨by have := HJ2.out; have := HK2.out; have := HJ22.out; first | omega | exact Nat.le_refl _⟩, ⟨zM BK132⟩, ⟨zB⟩⟩
         rw [if_pos c28] at H
         have c28b0 : decide (((rd_T204 l0 x5_2).f1) < x5_2) = true := decide_eq_true c28
         clear c28
         by_cases c29 : ((rd_T204 l0 x5_2).f2) ≥ 0
         rotate_left
         · rw [if_neg c29] at H
           have c29b0 : decide (0 ≤ ((rd_T204 l0 x5_2).f2)) = false := decide_eq_false c29
           clear c29
           have H' := zK H
           clear H
           have hcz31_0 : wc.cell? ⟨gb132, 0, none⟩ = some (.int .i64 ((rd_T204 l0 x5_2).f0)) := zy BK132 0
           have hcz31_1 : wc.cell? ⟨gb132, 1, none⟩ = some (.int .i64 ((rd_T204 l0 x5_2).f1)) := zy BK132 1
           have hcz31_2 : wc.cell? ⟨gb132, 2, none⟩ = some (.int .i64 ((rd_T204 l0 x5_2).f2)) := zy BK132 2
           have hfz31_0 := zf BK132.out 0
           have hfz31_1 := zf BK132.out 1
           have hfz31_2 := zf BK132.out 2
           go_wp2
           go_meet
           case rel => exact ⟨_, (false), zR, H', ⟨by have := HJ2.out; have := HK2.out; have := HJ22.out; first | omega | exact Nat.le_refl _⟩, ⟨zM BK132⟩, ⟨zB⟩⟩
         rw [if_pos c29] at H
         have c29b0 : decide (0 ≤ ((rd_T204 l0 x5_2).f2)) = true := decide_eq_true c29
         clear c29
         have H' := zK H
         clear H
         have hcz30_0 : wc.cell? ⟨gb132, 0, none⟩ = some (.int .i64 ((rd_T204 l0 x5_2).f0)) := zy BK132 0
         have hcz30_1 : wc.cell? ⟨gb132, 1, none⟩ = some (.int .i64 ((rd_T204 l0 x5_2).f1)) := zy BK132 1
         have hcz30_2 : wc.cell? ⟨gb132, 2, none⟩ = some (.int .i64 ((rd_T204 l0 x5_2).f2)) := zy BK132 2
         have hfz30_0 := zf BK132.out 0
         have hfz30_1 := zf BK132.out 1
         have hfz30_2 := zf BK132.out 2
         go_wp2
         go_meet
         case rel => exact ⟨_, (decide (((rd_T204 l0 x5_2).f2) < x5_2)), zR, H', ⟨by have := HJ2.out; have := HK2.out; have := HJ22.out; first | omega | exact Nat.le_refl _⟩, ⟨zM BK132⟩, ⟨zB⟩⟩
       replace c26 := Bool.eq_false_iff.mpr c26
       subst c26
       have H1 : (if ((rd_T204 l0 x5_2).f0) = 6 then (spec_l11Code.j3 kj22 l0 a1 x5_2 false (((rd_T204 l0 x5_2).f0) == 6) ((rd_T204 l0 x5_2).f0) ((rd_T204 l0 x5_2).f1) ((rd_T204 l0 x5_2).f2)) else (if ((rd_T204 l0 x5_2).f0) = 7 then (spec_l11Code.j3 kj22 l0 a1 x5_2 false (((rd_T204 l0 x5_2).f0) == 7) ((rd_T204 l0 x5_2).f0) ((rd_T204 l0 x5_2).f1) ((rd_T204 l0 x5_2).f2)) else (if ((rd_T204 l0 x5_2).f0) = 8 then (spec_l11Code.j3 kj22 l0 a1 x5_2 false (((rd_T204 l0 x5_2).f0) == 8) ((rd_T204 l0 x5_2).f0) ((rd_T204 l0 x5_2).f1) ((rd_T204 l0 x5_2).f2)) else (spec_l11Code.j3 kj22 l0 a1 x5_2 false (((rd_T204 l0 x5_2).f0) == 9) ((rd_T204 l0 x5_2).f0) ((rd_T204 l0 x5_2).f1) ((rd_T204 l0 x5_2).f2))))) = some r := by rw [if_neg (show ¬ (false = true) by decide)] at H; exact H
       clear H
       have H := H1
       clear H1
       have HC34 := zK H
       clear H
       go_upto_if 83 with (fail)
       go_cut [83] (fun v83 wc => ∃ (kq : Nat) (x83_33 : Bool), v83 = .bool x83_33 ∧ Aside0 (spec_l11Code.j3 kq l0 a1 x5_2 false x83_33 ((rd_T204 l0 x5_2).f0) ((rd_T204 l0 x5_2).f1) ((rd_T204 l0 x5_2).f2) = some r) ∧ Aside0 (kq ≤ kj22) ∧ Aside0 (wc.heap[gb132]? = some (.cells #[.int .i64 ((rd_T204 l0 x5_2).f0), .int .i64 ((rd_T204 l0 x5_2).f1), .int .i64 ((rd_T204 l0 x5_2).f2)] 204 (0, 0))) ∧ Aside0 (Below w.heap.size w wc))
       case first =>
        have H := HC34.out
        clear HC34
        by_cases c35 : ((rd_T204 l0 x5_2).f0) = 6
        · rw [if_pos c35] at H
          have c35b0 : (((rd_T204 l0 x5_2).f0) == 6) = true := beq_iff_eq.mpr c35
          have c35b1 : (((rd_T204 l0 x5_2).f0) != 6) = false := bne_eq_false_iff_eq.mpr c35
          clear c35
          (first | rw [c35b0] | (simp only [i64_w, i32_w]; rw [c35b0]) | skip)
          have H' := zK H
          clear H
          go_wp2
          go_meet
          case rel => exact ⟨_, ((((rd_T204 l0 x5_2).f0) == 6)), zR, H', ⟨by have := HJ2.out; have := HK2.out; have := HJ22.out; first | omega | exact Nat.le_refl _⟩, ⟨zM BK132⟩, ⟨zB⟩⟩
        rw [if_neg c35] at H
        have c35b0 : (((rd_T204 l0 x5_2).f0) == 6) = false := beq_eq_false_iff_ne.mpr c35
        have c35b1 : (((rd_T204 l0 x5_2).f0) != 6) = true := bne_iff_ne.mpr c35
        (first | rw [c35b0] | (simp only [i64_w, i32_w]; rw [c35b0]) | skip)
        by_cases c36 : ((rd_T204 l0 x5_2).f0) = 7
        · rw [if_pos c36] at H
          have c36b0 : (((rd_T204 l0 x5_2).f0) == 7) = true := beq_iff_eq.mpr c36
          have c36b1 : (((rd_T204 l0 x5_2).f0) != 7) = false := bne_eq_false_iff_eq.mpr c36
          clear c36
          have H' := zK H
          clear H
          go_wp2
          go_meet
          case rel => exact ⟨_, ((((rd_T204 l0 x5_2).f0) == 7)), zR, H', ⟨by have := HJ2.out; have := HK2.out; have := HJ22.out; first | omega | exact Nat.le_refl _⟩, ⟨zM BK132⟩, ⟨zB⟩⟩
        rw [if_neg c36] at H
        have c36b0 : (((rd_T204 l0 x5_2).f0) == 7) = false := beq_eq_false_iff_ne.mpr c36
        have c36b1 : (((rd_T204 l0 x5_2).f0) != 7) = true := bne_iff_ne.mpr c36
        by_cases c37 : ((rd_T204 l0 x5_2).f0) = 8
        rotate_left
        · rw [if_neg c37] at H
          have c37b0 : (((rd_T204 l0 x5_2).f0) == 8) = false := beq_eq_false_iff_ne.mpr c37
          have c37b1 : (((rd_T204 l0 x5_2).f0) != 8) = true := bne_iff_ne.mpr c37
          have H' := zK H
          clear H
          go_wp2
          go_meet
          case rel => exact ⟨_, ((((rd_T204 l0 x5_2).f0) == 9)), zR, H', ⟨by have := HJ2.out; have := HK2.out; have := HJ22.out; first | omega | exact Nat.le_refl _⟩, ⟨zM BK132⟩, ⟨zB⟩⟩
        rw [if_pos c37] at H
        have c37b0 : (((rd_T204 l0 x5_2).f0) == 8) = true := beq_iff_eq.mpr c37
        have c37b1 : (((rd_T204 l0 x5_2).f0) != 8) = false := bne_eq_false_iff_eq.mpr c37
        clear c37
        have H' := zK H
        clear H
        go_wp2
        go_meet
        case rel => exact ⟨_, ((((rd_T204 l0 x5_2).f0) == 8)), zR, H', ⟨by have := HJ2.out; have := HK2.out; have := HJ22.out; first | omega | exact Nat.le_refl _⟩, ⟨zM BK132⟩, ⟨zB⟩⟩
       case rest =>
        clear HC34
        try clear c1
        try clear p1
        try clear q1
        try clear hx1
        try clear c2
        try clear p2
        try clear c3
        try clear c4
        try clear c4b0
        try clear c4b1
        try clear c5
        try clear c6
        try clear c6b0
        try clear c7
        try clear c7b0
        try clear c11
        try clear c11b0
        try clear c11b1
        try clear c12
        try clear c12b0
        try clear c13
        try clear c13b0
        try clear p13
        try clear q13
        try clear hx13
        try clear c14
        try clear c17
        try clear c17b0
        try clear c17b1
        try clear c18
        try clear c18b0
        try clear c19
        try clear c19b0
        try clear c24
        try clear c24b0
        try clear c24b1
        try clear c25
        try clear c25b0
        try clear c25b1
        try clear c26
        try clear c27
        try clear c27b0
        try clear c28
        try clear c28b0
        try clear c29
        try clear c29b0
        try clear c35
        try clear c35b0
        try clear c35b1
        try clear c36
        try clear c36b0
        try clear c36b1
        try clear c37
        try clear c37b0
        try clear c37b1
        try clear hcz10_0 hcz10_1 hcz10_2 hfz10_0 hfz10_1 hfz10_2
        try clear hcz14_0 hcz14_1 hcz14_2 hfz14_0 hfz14_1 hfz14_2
        try clear hcz15_0 hcz15_1 hcz15_2 hfz15_0 hfz15_1 hfz15_2
        try clear hcz16_0 hcz16_1 hcz16_2 hfz16_0 hfz16_1 hfz16_2
        try clear hcz20_0 hcz20_1 hcz20_2 hfz20_0 hfz20_1 hfz20_2
        try clear hcz21_0 hcz21_1 hcz21_2 hfz21_0 hfz21_1 hfz21_2
        try clear hcz22_0 hcz22_1 hcz22_2 hfz22_0 hfz22_1 hfz22_2
        try clear hcz30_0 hcz30_1 hcz30_2 hfz30_0 hfz30_1 hfz30_2
        try clear hcz31_0 hcz31_1 hcz31_2 hfz31_0 hfz31_1 hfz31_2
        try clear hcz32_0 hcz32_1 hcz32_2 hfz32_0 hfz32_1 hfz32_2
        try clear hcz33_0 hcz33_1 hcz33_2 hfz33_0 hfz33_1 hfz33_2
        try clear hx131_0
        try clear hx131_1
        try clear hx131_2
        try clear p1
        try clear p13
        try clear p131
        try clear p2
        try clear q1
        try clear q13
        try clear q131
        obtain ⟨kq, x83_33, rfl, HA, HJ33, BK132, HB⟩ := hcut
        cases kq with
        | zero => exact absurd HA.out (by simp [spec_l11Code.j3])
        | succ kj33 =>
         have H := HA.out
         clear HA
         simp only [spec_l11Code.j3] at H
         by_cases c38 : x83_33 = true
         rotate_left
         · replace c38 := Bool.eq_false_iff.mpr c38
           subst c38
           have H1 : (spec_l11Code.j4 kj33 l0 a1 x5_2 false) = some r := by rw [if_neg (show ¬ (false = true) by decide)] at H; exact H
           clear H
           have H := H1
           clear H1
           have H' := zK H
           clear H
           go_wp2
           go_meet
           case rel => exact ⟨_, (false), zR, H', ⟨by have := HJ2.out; have := HK2.out; have := HJ22.out; have := HJ33.out; first | omega | exact Nat.le_refl _⟩, ⟨zM BK132⟩, ⟨zB⟩⟩
         subst c38
         have H1 : (if ((rd_T204 l0 x5_2).f1) ≥ 0 then (if ((rd_T204 l0 x5_2).f1) < x5_2 then (spec_l11Code.j4 kj33 l0 a1 x5_2 (((rd_T204 l0 x5_2).f2) == 0)) else (spec_l11Code.j4 kj33 l0 a1 x5_2 false)) else (spec_l11Code.j4 kj33 l0 a1 x5_2 false)) = some r := by rw [if_pos rfl] at H; exact H
         clear H
         have H := H1
         clear H1
         by_cases c39 : ((rd_T204 l0 x5_2).f1) ≥ 0
         rotate_left
         · rw [if_neg c39] at H
           have c39b0 : decide (0 ≤ ((rd_T204 l0 x5_2).f1)) = false := decide_eq_false c39
           clear c39
           have H' := zK H
           clear H
           have hcz43_0 : wc.cell? ⟨gb132, 0, none⟩ = some (.int .i64 ((rd_T204 l0 x5_2).f0)) := zy BK132 0
           have hcz43_1 : wc.cell? ⟨gb132, 1, none⟩ = some (.int .i64 ((rd_T204 l0 x5_2).f1)) := zy BK132 1
           have hcz43_2 : wc.cell? ⟨gb132, 2, none⟩ = some (.int .i64 ((rd_T204 l0 x5_2).f2)) := zy BK132 2
           have hfz43_0 := zf BK132.out 0
           have hfz43_1 := zf BK132.out 1
           have hfz43_2 := zf BK132.out 2
           go_wp2
           go_meet
           case rel => exact ⟨_, (false), zR, H', ⟨by have := HJ2.out; have := HK2.out; have := HJ22.out; have := HJ33.out; first | omega | exact Nat.le_refl _⟩, ⟨zM BK132⟩, ⟨zB⟩⟩
         rw [if_pos c39] at H
         have c39b0 : decide (0 ≤ ((rd_T204 l0 x5_2).f1)) = true := decide_eq_true c39
         clear c39
         by_cases c40 : ((rd_T204 l0 x5_2).f1) < x5_2
         rotate_left
         · rw [if_neg c40] at H
           have c40b0 : decide (((rd_T204 l0 x5_2).f1) < x5_2) = false := decide_eq_false c40
           clear c40
           have H' := zK H
           clear H
           have hcz42_0 : wc.cell? ⟨gb132, 0, none⟩ = some (.int .i64 ((rd_T204 l0 x5_2).f0)) := zy BK132 0
           have hcz42_1 : wc.cell? ⟨gb132, 1, none⟩ = some (.int .i64 ((rd_T204 l0 x5_2).f1)) := zy BK132 1
           have hcz42_2 : wc.cell? ⟨gb132, 2, none⟩ = some (.int .i64 ((rd_T204 l0 x5_2).f2)) := zy BK132 2
           have hfz42_0 := zf BK132.out 0
           have hfz42_1 := zf BK132.out 1
           have hfz42_2 := zf BK132.out 2
           go_wp2
           go_meet
           case rel => exact ⟨_, (false), zR, H', ⟨by have := HJ2.out; have := HK2.out; have := HJ22.out; have := HJ33.out; first | omega | exact Nat.le_refl _⟩, ⟨zM BK132⟩, ⟨zB⟩⟩
         rw [if_pos c40] at H
         have c40b0 : decide (((rd_T204 l0 x5_2).f1) < x5_2) = true := decide_eq_true c40
         clear c40
         have H' := zK H
         clear H
         have hcz41_0 : wc.cell? ⟨gb132, 0, none⟩ = some (.int .i64 ((rd_T204 l0 x5_2).f0)) := zy BK132 0
         have hcz41_1 : wc.cell? ⟨gb132, 1, none⟩ = some (.int .i64 ((rd_T204 l0 x5_2).f1)) := zy BK132 1
         have hcz41_2 : wc.cell? ⟨gb132, 2, none⟩ = some (.int .i64 ((rd_T204 l0 x5_2).f2)) := zy BK132 2
         have hfz41_0 := zf BK132.out 0
         have hfz41_1 := zf BK132.out 1
         have hfz41_2 := zf BK132.out 2
         go_wp2
         go_meet
         case rel => exact ⟨_, ((((rd_T204 l0 x5_2).f2) == 0)), zR, H', ⟨by have := HJ2.out; have := HK2.out; have := HJ22.out; have := HJ33.out; first | omega | exact Nat.le_refl _⟩, ⟨zM BK132⟩, ⟨zB⟩⟩
    case rest =>
     clear HC8
     try clear c1
     try clear p1
     try clear q1
     try clear hx1
     try clear c2
     try clear p2
     try clear c3
     try clear c4
     try clear c4b0
     try clear c4b1
     try clear c5
     try clear c6
     try clear c6b0
     try clear c7
     try clear c7b0
     try clear c11
     try clear c11b0
     try clear c11b1
     try clear c12
     try clear c12b0
     try clear c13
     try clear c13b0
     try clear p13
     try clear q13
     try clear hx13
     try clear c14
     try clear c17
     try clear c17b0
     try clear c17b1
     try clear c18
     try clear c18b0
     try clear c19
     try clear c19b0
     try clear c24
     try clear c24b0
     try clear c24b1
     try clear c25
     try clear c25b0
     try clear c25b1
     try clear c26
     try clear c27
     try clear c27b0
     try clear c28
     try clear c28b0
     try clear c29
     try clear c29b0
     try clear c35
     try clear c35b0
     try clear c35b1
     try clear c36
     try clear c36b0
     try clear c36b1
     try clear c37
     try clear c37b0
     try clear c37b1
     try clear c38
     try clear c39
     try clear c39b0
     try clear c40
     try clear c40b0
     try clear hcz10_0 hcz10_1 hcz10_2 hfz10_0 hfz10_1 hfz10_2
     try clear hcz14_0 hcz14_1 hcz14_2 hfz14_0 hfz14_1 hfz14_2
     try clear hcz15_0 hcz15_1 hcz15_2 hfz15_0 hfz15_1 hfz15_2
     try clear hcz16_0 hcz16_1 hcz16_2 hfz16_0 hfz16_1 hfz16_2
     try clear hcz20_0 hcz20_1 hcz20_2 hfz20_0 hfz20_1 hfz20_2
     try clear hcz21_0 hcz21_1 hcz21_2 hfz21_0 hfz21_1 hfz21_2
     try clear hcz22_0 hcz22_1 hcz22_2 hfz22_0 hfz22_1 hfz22_2
     try clear hcz30_0 hcz30_1 hcz30_2 hfz30_0 hfz30_1 hfz30_2
     try clear hcz31_0 hcz31_1 hcz31_2 hfz31_0 hfz31_1 hfz31_2
     try clear hcz32_0 hcz32_1 hcz32_2 hfz32_0 hfz32_1 hfz32_2
     try clear hcz33_0 hcz33_1 hcz33_2 hfz33_0 hfz33_1 hfz33_2
     try clear hcz41_0 hcz41_1 hcz41_2 hfz41_0 hfz41_1 hfz41_2
     try clear hcz42_0 hcz42_1 hcz42_2 hfz42_0 hfz42_1 hfz42_2
     try clear hcz43_0 hcz43_1 hcz43_2 hfz43_0 hfz43_1 hfz43_2
     try clear hx131_0
     try clear hx131_1
     try clear hx131_2
     try clear p1
     try clear p13
     try clear p131
     try clear p2
     try clear q1
     try clear q13
     try clear q131
     obtain ⟨kq, x7_7, rfl, HA, HJ7, BK132, HB⟩ := hcut
     cases kq with
     | zero => exact absurd HA.out (by simp [spec_l11Code.j4])
     | succ kj7 =>
      have H := HA.out
      clear HA
      simp only [spec_l11Code.j4] at H
      by_cases c44 : x7_7 = true
      rotate_left
      · replace c44 := Bool.eq_false_iff.mpr c44
        subst c44
        have H1 : (some false) = some r := by rw [if_neg (show ¬ (false = true) by decide)] at H; exact H
        clear H
        have H := H1
        clear H1
        obtain rfl := Option.some.inj H
        go_wp2
        go_ret
        exact ⟨zE, zB⟩
      subst c44
      have H1 : (spec_l11Code.l0 kj7 l0 a1 (wrap64 (x5_2 + 1))) = some r := by rw [if_pos rfl] at H; exact H
      clear H
      have H := H1
      clear H1
      have H' := zK H
      clear H
      go_wp2
      go_roundg kj7
      case measure => have := HJ2.out; have := HK2.out; have := HJ7.out; omega
      case rel => exact ⟨(wrap64 (x5_2 + 1)), zR, H', ⟨by have := HJ2.out; have := HK2.out; have := HJ7.out; omega⟩, ⟨zB⟩⟩

end Go.Proofs.Ytkfagiojcjnfkaa.PFnExactNestOk
