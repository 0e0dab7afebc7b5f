-- Printed out of the translation by this session's own turned copy of a printer; Lean checks it.
import Derived.Test.YtkfagiojcjnfkaaPFnExactNestOkx0
namespace Go.Proofs.Ytkfagiojcjnfkaa.PFnExactNestOk
open Go.RowKit Go.Proofs.YtkfagiojcjnfkaaW.PrintWords Go.Proofs.YtkfagiojcjnfkaaW.PrintLast Go.Proofs.YtkfagiojcjnfkaaW.PrintMore
attribute [local go_sem] max2_int min2_int max_two min_two max_three min_three max_four min_four   -- for this text's walks alone
set_option linter.unusedVariables false
set_option linter.unusedSimpArgs false

/-! ### spec_l11Access: function 147 -/
mutual
def spec_l11Access.j0 : Nat → List Int → List Int → Bool → Int → Int → List Int → Option (Bool)
  | 0, _, _, _, _, _, _ => none
  | k + 1, x1, x2, x43, x134000, x134001, x134002 => if x43 = true then (some false) else (spec_l11Access.l0 k x1 x2 x134001 x134001 0 x134000 x134001 x134002)
def spec_l11Access.l0 : Nat → List Int → List Int → Int → Int → Int → Int → Int → List Int → Option (Bool)
  | 0, _, _, _, _, _, _, _, _ => none
  | k + 1, x1, x2, x7, x8, x9, x134000, x134001, x134002 => if x9 < (x1.length : Int) then (if 0 ≤ x9 then (if x9 < (x134002.length : Int) then (if (rd x1 x9) = 1 then (spec_l11Access.j2 k x1 x2 x7 x8 x9 (rd x134002 x9) ((rd x134002 x9) == 0) x134000 x134001 x134002) else (spec_l11Access.j2 k x1 x2 x7 x8 x9 (rd x134002 x9) false x134000 x134001 x134002)) else (none)) else (none)) else (if x7 ≥ 0 then (if 0 ≤ x134000 then (if x134000 < (x2.length : Int) then (some (decide (x8 < (rd x2 x134000)))) else (none)) else (none)) else (some false))
def spec_l11Access.j2 : Nat → List Int → List Int → Int → Int → Int → Int → Bool → Int → Int → List Int → Option (Bool)
  | 0, _, _, _, _, _, _, _, _, _, _ => none
  | k + 1, x1, x2, x7, x8, x9, x10, x67, x134000, x134001, x134002 => if x67 = true then (spec_l11Access.l0 k x1 x2 x7 x8 (wrap64 (x9 + 1)) x134000 x134001 x134002) else (if 0 ≤ x9 then (if x9 < (x1.length : Int) then (if (rd x1 x9) = 1 then (spec_l11Access.j3 k x1 x2 x7 x8 x9 x10 true x134000 x134001 x134002) else (if x10 < (-4096) then (spec_l11Access.j3 k x1 x2 x7 x8 x9 x10 true x134000 x134001 x134002) else (spec_l11Access.j3 k x1 x2 x7 x8 x9 x10 (decide (x10 > 4096)) x134000 x134001 x134002))) else (none)) else (none))
def spec_l11Access.j3 : Nat → List Int → List Int → Int → Int → Int → Int → Bool → Int → Int → List Int → Option (Bool)
  | 0, _, _, _, _, _, _, _, _, _, _ => none
  | k + 1, x1, x2, x7, x8, x9, x10, x80, x134000, x134001, x134002 => if x80 = true then (some false) else (if x10 < 0 then (if 0 ≤ x9 then (if x9 < (x1.length : Int) then (spec_l11Access.l0 k x1 x2 (wrap64 (x7 + (wrap64 (x10 * (wrap64 ((rd x1 x9) - 1)))))) x8 (wrap64 (x9 + 1)) x134000 x134001 x134002) else (none)) else (none)) else (if 0 ≤ x9 then (if x9 < (x1.length : Int) then (spec_l11Access.l0 k x1 x2 x7 (wrap64 (x8 + (wrap64 (x10 * (wrap64 ((rd x1 x9) - 1)))))) (wrap64 (x9 + 1)) x134000 x134001 x134002) else (none)) else (none)))
end
def spec_l11Access.f (k : Nat) (a0_0 : Int) (a0_1 : Int) (l0_2 : List Int) (l1 : List Int) (l2 : List Int) : Option (Bool) := if a0_0 < 0 then (spec_l11Access.j0 k l1 l2 true a0_0 a0_1 l0_2) else (if a0_0 ≥ (l2.length : Int) then (spec_l11Access.j0 k l1 l2 true a0_0 a0_1 l0_2) else (if (l0_2.length : Int) = (l1.length : Int) then (if a0_1 < 0 then (spec_l11Access.j0 k l1 l2 true a0_0 a0_1 l0_2) else (if 0 ≤ a0_0 then (if a0_0 < (l2.length : Int) then (spec_l11Access.j0 k l1 l2 (decide (a0_1 ≥ (rd l2 a0_0))) a0_0 a0_1 l0_2) else (none)) else (none))) else (spec_l11Access.j0 k l1 l2 true a0_0 a0_1 l0_2)))
theorem spec_l11Access.mono_l : ∀ k, (∀ y0 y1 y2 y3 y4 y5, LeO (spec_l11Access.j0 k y0 y1 y2 y3 y4 y5) (spec_l11Access.j0 (k + 1) y0 y1 y2 y3 y4 y5)) ∧ (∀ y0 y1 y2 y3 y4 y5 y6 y7, LeO (spec_l11Access.l0 k y0 y1 y2 y3 y4 y5 y6 y7) (spec_l11Access.l0 (k + 1) y0 y1 y2 y3 y4 y5 y6 y7)) ∧ (∀ y0 y1 y2 y3 y4 y5 y6 y7 y8 y9, LeO (spec_l11Access.j2 k y0 y1 y2 y3 y4 y5 y6 y7 y8 y9) (spec_l11Access.j2 (k + 1) y0 y1 y2 y3 y4 y5 y6 y7 y8 y9)) ∧ (∀ y0 y1 y2 y3 y4 y5 y6 y7 y8 y9, LeO (spec_l11Access.j3 k y0 y1 y2 y3 y4 y5 y6 y7 y8 y9) (spec_l11Access.j3 (k + 1) y0 y1 y2 y3 y4 y5 y6 y7 y8 y9))
  | 0 => ⟨fun _ _ _ _ _ _ r h => by simp [spec_l11Access.j0] at h, fun _ _ _ _ _ _ _ _ r h => by simp [spec_l11Access.l0] at h, fun _ _ _ _ _ _ _ _ _ _ r h => by simp [spec_l11Access.j2] at h, fun _ _ _ _ _ _ _ _ _ _ r h => by simp [spec_l11Access.j3] at h⟩
  | k + 1 => by
    obtain ⟨ih0, ih1, ih2, ih3⟩ := spec_l11Access.mono_l k
    refine ⟨?_, ?_, ?_, ?_⟩
    all_goals (intros; first | unfold spec_l11Access.j0 | unfold spec_l11Access.l0 | unfold spec_l11Access.j2 | unfold spec_l11Access.j3)
    all_goals repeat' first
      | (with_reducible exact ih0 _ _ _ _ _ _)
      | (with_reducible exact ih1 _ _ _ _ _ _ _ _)
      | (with_reducible exact ih2 _ _ _ _ _ _ _ _ _ _)
      | (with_reducible exact ih3 _ _ _ _ _ _ _ _ _ _)
      | (with_reducible exact LeO.refl _)
      | (with_reducible exact LeO.none _)
      | (with_reducible refine LeO.ite ?_ ?_)
      | (with_reducible refine LeO.bind ?_ (fun _ => ?_))
      | exact ih0 _ _ _ _ _ _
      | exact ih1 _ _ _ _ _ _ _ _
      | exact ih2 _ _ _ _ _ _ _ _ _ _
      | exact ih3 _ _ _ _ _ _ _ _ _ _
      | exact LeO.none _
      | refine LeO.ite ?_ ?_
      | refine LeO.bind ?_ (fun _ => ?_)
theorem spec_l11Access.mono : ∀ a0 a1 a2 a3 a4 k, LeO (spec_l11Access.f k a0 a1 a2 a3 a4) (spec_l11Access.f (k + 1) a0 a1 a2 a3 a4) := by
  intro a0 a1 a2 a3 a4 k
  obtain ⟨ih0, ih1, ih2, ih3⟩ := spec_l11Access.mono_l k
  unfold spec_l11Access.f
  repeat' first
      | (with_reducible exact ih0 _ _ _ _ _ _)
      | (with_reducible exact ih1 _ _ _ _ _ _ _ _)
      | (with_reducible exact ih2 _ _ _ _ _ _ _ _ _ _)
      | (with_reducible exact ih3 _ _ _ _ _ _ _ _ _ _)
      | (with_reducible exact LeO.refl _)
      | (with_reducible exact LeO.none _)
      | (with_reducible refine LeO.ite ?_ ?_)
      | (with_reducible refine LeO.bind ?_ (fun _ => ?_))
      | exact ih0 _ _ _ _ _ _
      | exact ih1 _ _ _ _ _ _ _ _
      | exact ih2 _ _ _ _ _ _ _ _ _ _
      | exact ih3 _ _ _ _ _ _ _ _ _ _
      | exact LeO.none _
      | refine LeO.ite ?_ ?_
      | refine LeO.bind ?_ (fun _ => ?_)
set_option maxHeartbeats 8000000 in
set_option maxRecDepth 100000 in
theorem spec_l11Access.calls (k : Nat) (a0_0 : Int) (a0_1 : Int) (A0_2 : Option Addr) (c0_2 : Nat) (l0_2 : List Int) (A1 : Option Addr) (c1 : Nat) (l1 : List Int) (A2 : Option Addr) (c2 : Nat) (l2 : List Int) (r : Bool) (w : World) (hr0_2 : Kd.C (Kd.int .i64) w A0_2 l0_2.length l0_2) (hc0_2 : l0_2.length ≤ c0_2) (hr1 : Kd.C (Kd.int .i64) w A1 l1.length l1) (hc1 : l1.length ≤ c1) (hr2 : Kd.C (Kd.int .i64) w A2 l2.length l2) (hc2 : l2.length ≤ c2) (h : spec_l11Access.f k a0_0 a0_1 l0_2 l1 l2 = some r) :
    Calls Try.prog 147 #[.agg #[.int .i64 a0_0, .int .i64 a0_1, .slice A0_2 l0_2.length c0_2], .slice A1 l1.length c1, .slice A2 l2.length c2] w fun e w' => e = .returned (.bool r) ∧ Below w.heap.size w w' := by
  have hu129 := Try.underlying129
  have HR0_2 := zK hr0_2
  have HC0_2 := zK hc0_2
  clear hr0_2 hc0_2
  have HR1 := zK hr1
  have HC1 := zK hc1
  clear hr1 hc1
  have HR2 := zK hr2
  have HC2 := zK hc2
  clear hr2 hc2
  have HB := zK (Below.refl w.heap.size w)
  have H : (if a0_0 < 0 then (spec_l11Access.j0 k l1 l2 true a0_0 a0_1 l0_2) else (if a0_0 ≥ (l2.length : Int) then (spec_l11Access.j0 k l1 l2 true a0_0 a0_1 l0_2) else (if (l0_2.length : Int) = (l1.length : Int) then (if a0_1 < 0 then (spec_l11Access.j0 k l1 l2 true a0_0 a0_1 l0_2) else (if 0 ≤ a0_0 then (if a0_0 < (l2.length : Int) then (spec_l11Access.j0 k l1 l2 (decide (a0_1 ≥ (rd l2 a0_0))) a0_0 a0_1 l0_2) else (none)) else (none))) else (spec_l11Access.j0 k l1 l2 true a0_0 a0_1 l0_2)))) = some r := h
  clear h
  have HC4 := zK H
  clear H
  go_enter Try.func147, Try.ntmps147
  go_upto_region 1 with (first | ((with_reducible refine gate_dst (N := 3) rfl ?_); (try (refine gate_guard (by rfl) ?_; dsimp only)); refine zJ 3 #[.int .i64 a0_0, .int .i64 a0_1, .slice A0_2 l0_2.length c0_2] 129 ?_; intro gb133 hg w5 hbox hb; have n0_ := zK (zp zB hb); have n1_ := zK (hbox); have n2_ := zK (zI hg zB); have n3_ := zK (zI hg zB); clear HB; have HB := n0_; have BK133 := n1_; have GW133 := n2_; have GE133 := n3_; clear n0_ n1_ n2_ n3_; clear hb hbox hg))
  repeat (go_quiet (first | ((with_reducible refine gate_dst (N := 3) rfl ?_); (try (refine gate_guard (by rfl) ?_; dsimp only)); refine zJ 3 #[.int .i64 a0_0, .int .i64 a0_1, .slice A0_2 l0_2.length c0_2] 129 ?_; intro gb133 hg w5 hbox hb; have n0_ := zK (zp zB hb); have n1_ := zK (hbox); have n2_ := zK (zI hg zB); have n3_ := zK (zI hg zB); clear HB; have HB := n0_; have BK133 := n1_; have GW133 := n2_; have GE133 := n3_; clear n0_ n1_ n2_ n3_; clear hb hbox hg)); go_upto_region 1 with (first | ((with_reducible refine gate_dst (N := 3) rfl ?_); (try (refine gate_guard (by rfl) ?_; dsimp only)); refine zJ 3 #[.int .i64 a0_0, .int .i64 a0_1, .slice A0_2 l0_2.length c0_2] 129 ?_; intro gb133 hg w5 hbox hb; have n0_ := zK (zp zB hb); have n1_ := zK (hbox); have n2_ := zK (zI hg zB); have n3_ := zK (zI hg zB); clear HB; have HB := n0_; have BK133 := n1_; have GW133 := n2_; have GE133 := n3_; clear n0_ n1_ n2_ n3_; clear hb hbox hg)))
  (try simp only [Act.put, zq1, zq2, zq3])
  go_cut [43] (fun v43 wc => ∃ (kq : Nat) (x43_3 : Bool), v43 = .bool x43_3 ∧ Aside0 (spec_l11Access.j0 kq l1 l2 x43_3 a0_0 a0_1 l0_2 = some r) ∧ Aside0 (kq ≤ k) ∧ Aside0 (wc.heap[gb133]? = some (.cells #[.int .i64 a0_0, .int .i64 a0_1, (.slice A0_2 l0_2.length c0_2)] 129 (0, 0))) ∧ Aside0 (Below w.heap.size w wc))
  case first =>
   have H := HC4.out
   clear HC4
   by_cases c6 : a0_0 < 0
   · rw [if_pos c6] at H
     have c6b0 : decide (a0_0 < 0) = true := decide_eq_true c6
     clear c6
     (first | rw [c6b0] | (simp only [i64_w, i32_w]; rw [c6b0]) | skip)
     have H' := zK H
     clear H
     obtain ⟨hcz7_0, hcz7_1, hcz7_2, hfz7_0, hfz7_1, hfz7_2⟩ := zc3 BK133
     go_wp2
     repeat (go_quiet (fail); try go_wp2)
     go_meet
     case rel => exact ⟨_, (true), zR, H', ⟨by first | omega | exact Nat.le_refl _⟩, ⟨zM BK133⟩, ⟨zB⟩⟩
   rw [if_neg c6] at H
   have c6b0 : decide (a0_0 < 0) = false := decide_eq_false c6
   clear c6
   (first | rw [c6b0] | (simp only [i64_w, i32_w]; rw [c6b0]) | skip)
   by_cases c8 : a0_0 ≥ (l2.length : Int)
   · rw [if_pos c8] at H
     have c8b0 : decide ((l2.length : Int) ≤ a0_0) = true := decide_eq_true c8
     clear c8
     have H' := zK H
     clear H
     obtain ⟨hcz9_0, hcz9_1, hcz9_2, hfz9_0, hfz9_1, hfz9_2⟩ := zc3 BK133
     go_wp2
     repeat (go_quiet (fail); try go_wp2)
     go_meet
     case rel => exact ⟨_, (true), zR, H', ⟨by first | omega | exact Nat.le_refl _⟩, ⟨zM BK133⟩, ⟨zB⟩⟩
   rw [if_neg c8] at H
   have c8b0 : decide ((l2.length : Int) ≤ a0_0) = false := decide_eq_false c8
   clear c8
   by_cases c10 : (l0_2.length : Int) = (l1.length : Int)
   rotate_left
   · rw [if_neg c10] at H
     have c10b0 : ((l0_2.length : Int) == (l1.length : Int)) = false := beq_eq_false_iff_ne.mpr c10
     have c10b1 : ((l0_2.length : Int) != (l1.length : Int)) = true := bne_iff_ne.mpr c10
     have c10b2 : (l0_2.length == l1.length) = false := by first | simpa using c10 | (simp at c10 ⊢; omega)
     have H' := zK H
     clear H
     obtain ⟨hcz16_0, hcz16_1, hcz16_2, hfz16_0, hfz16_1, hfz16_2⟩ := zc3 BK133
     go_wp2
     repeat (go_quiet (fail); try go_wp2)
     go_meet
     case rel => exact ⟨_, (true), zR, H', ⟨by first | omega | exact Nat.le_refl _⟩, ⟨zM BK133⟩, ⟨zB⟩⟩
   rw [if_pos c10] at H
   have c10b0 : ((l0_2.length : Int) == (l1.length : Int)) = true := beq_iff_eq.mpr c10
   have c10b1 : ((l0_2.length : Int) != (l1.length : Int)) = false := bne_eq_false_iff_eq.mpr c10
   have c10b2 : (l0_2.length == l1.length) = true := by first | simpa using c10 | (simp at c10 ⊢; omega)
   clear c10
   by_cases c11 : a0_1 < 0
   · rw [if_pos c11] at H
     have c11b0 : decide (a0_1 < 0) = true := decide_eq_true c11
     clear c11
     have H' := zK H
     clear H
     obtain ⟨hcz12_0, hcz12_1, hcz12_2, hfz12_0, hfz12_1, hfz12_2⟩ := zc3 BK133
     go_wp2
     repeat (go_quiet (fail); try go_wp2)
     go_meet
     case rel => exact ⟨_, (true), zR, H', ⟨by first | omega | exact Nat.le_refl _⟩, ⟨zM BK133⟩, ⟨zB⟩⟩
   rw [if_neg c11] at H
   have c11b0 : decide (a0_1 < 0) = false := decide_eq_false c11
   clear c11
   by_cases c13 : 0 ≤ a0_0
   rotate_left
   · rw [if_neg c13] at H
     exact absurd H (by simp)
   rw [if_pos c13] at H
   have c13b0 : decide (0 ≤ a0_0) = true := decide_eq_true c13
   clear c13
   by_cases c14 : a0_0 < (l2.length : Int)
   rotate_left
   · rw [if_neg c14] at H
     exact absurd H (by simp)
   rw [if_pos c14] at H
   have c14b0 : decide (a0_0 < (l2.length : Int)) = true := decide_eq_true c14
   clear c14
   have H' := zK H
   clear H
   obtain ⟨hcz15_0, hcz15_1, hcz15_2, hfz15_0, hfz15_1, hfz15_2⟩ := zc3 BK133
   have p134 : 0 ≤ (a0_0 : Int) := of_decide_eq_true zA
   have q134 : a0_0 < (l2.length : Int) := of_decide_eq_true zA
   obtain ⟨ad134, e134, hx134_0⟩ := Kd.at_int HR2.out a0_0 p134 q134
   cases e134
   (try replace hx134_0 := zX HB hx134_0)
   replace p134 := eq_true p134
   replace q134 := eq_true q134
   go_wp2
   repeat (go_quiet (fail); try go_wp2)
   go_meet
   case rel => exact ⟨_, (decide (a0_1 ≥ (rd l2 a0_0))), zR, H', ⟨by first | omega | exact Nat.le_refl _⟩, ⟨zM BK133⟩, ⟨zB⟩⟩
  case rest =>
   clear HC4
   try clear c1
   try clear p1
   try clear q1
   try clear hx1
   try clear c2
   try clear p2
   try clear c6
   try clear c6b0
   try clear c8
   try clear c8b0
   try clear c10
   try clear c10b0
   try clear c10b1
   try clear c10b2
   try clear c11
   try clear c11b0
   try clear c13
   try clear c13b0
   try clear p13
   try clear q13
   try clear hx13
   try clear c14
   try clear c14b0
   try clear hcz12_0 hcz12_1 hcz12_2 hfz12_0 hfz12_1 hfz12_2
   try clear hcz15_0 hcz15_1 hcz15_2 hfz15_0 hfz15_1 hfz15_2
   try clear hcz16_0 hcz16_1 hcz16_2 hfz16_0 hfz16_1 hfz16_2
   try clear hcz7_0 hcz7_1 hcz7_2 hfz7_0 hfz7_1 hfz7_2
   try clear hcz9_0 hcz9_1 hcz9_2 hfz9_0 hfz9_1 hfz9_2
   try clear hx134_0
   try clear p134
   try clear q134
   obtain ⟨kq, x43_3, rfl, HA, HJ3, BK133, HB⟩ := hcut
   cases kq with
   | zero => exact absurd HA.out (by simp [spec_l11Access.j0])
   | succ kj3 =>
    have H := HA.out
    clear HA
    simp only [spec_l11Access.j0] at H
    by_cases c17 : x43_3 = true
    · subst c17
      have H1 : (some false) = some r := by rw [if_pos rfl] at H; exact H
      clear H
      have H := H1
      clear H1
      obtain rfl := Option.some.inj H
      go_wp2
      repeat (go_quiet (fail); try go_wp2)
      go_ret
      exact ⟨zE, zB⟩
    replace c17 := Bool.eq_false_iff.mpr c17
    subst c17
    have H1 : (spec_l11Access.l0 kj3 l1 l2 a0_1 a0_1 0 a0_0 a0_1 l0_2) = some r := by rw [if_neg (show ¬ (false = true) by decide)] at H; exact H
    clear H
    have H := H1
    clear H1
    have H' := zK H
    clear H
    obtain ⟨hcz18_0, hcz18_1, hcz18_2, hfz18_0, hfz18_1, hfz18_2⟩ := zc3 BK133
    go_wp2
    repeat (go_quiet (fail); try go_wp2)
    go_loopg [7, 8, 9] kj3 (fun kq v7 v8 v9 w' => ∃ (x7_2 : Int) (x8_2 : Int) (x9_2 : Int), v7 = .int .i64 x7_2 ∧ v8 = .int .i64 x8_2 ∧ v9 = .int .i64 x9_2 ∧ Aside0 (spec_l11Access.l0 kq l1 l2 x7_2 x8_2 x9_2 a0_0 a0_1 l0_2 = some r) ∧ Aside0 (kq ≤ kj3) ∧ Aside0 (w'.heap[gb133]? = some (.cells #[.int .i64 a0_0, .int .i64 a0_1, (.slice A0_2 l0_2.length c0_2)] 129 (0, 0))) ∧ Aside0 (Below w.heap.size w w'))
    case atStart => exact ⟨(a0_1), (a0_1), (0), zR, zR, zR, H', ⟨Nat.le_refl _⟩, ⟨zM BK133⟩, ⟨zB⟩⟩
    clear H'
    try clear c1
    try clear p1
    try clear q1
    try clear hx1
    try clear c2
    try clear p2
    try clear c6
    try clear c6b0
    try clear c8
    try clear c8b0
    try clear c10
    try clear c10b0
    try clear c10b1
    try clear c10b2
    try clear c11
    try clear c11b0
    try clear c13
    try clear c13b0
    try clear p13
    try clear q13
    try clear hx13
    try clear c14
    try clear c14b0
    try clear c17
    try clear hcz12_0 hcz12_1 hcz12_2 hfz12_0 hfz12_1 hfz12_2
    try clear hcz15_0 hcz15_1 hcz15_2 hfz15_0 hfz15_1 hfz15_2
    try clear hcz16_0 hcz16_1 hcz16_2 hfz16_0 hfz16_1 hfz16_2
    try clear hcz18_0 hcz18_1 hcz18_2 hfz18_0 hfz18_1 hfz18_2
    try clear hcz7_0 hcz7_1 hcz7_2 hfz7_0 hfz7_1 hfz7_2
    try clear hcz9_0 hcz9_1 hcz9_2 hfz9_0 hfz9_1 hfz9_2
    try clear hx134_0
    try clear p1
    try clear p13
    try clear p134
    try clear p2
    try clear q1
    try clear q13
    try clear q134
    obtain ⟨x7_2, x8_2, x9_2, rfl, rfl, rfl, HA, HK2, BK133, HB⟩ := hrel
    rcases gk with _ | k2
    · exact absurd HA.out (by simp [spec_l11Access.l0])
    have H := HA.out
    clear HA
    simp only [spec_l11Access.l0] at H
    by_cases c19 : x9_2 < (l1.length : Int)
    rotate_left
    · rw [if_neg c19] at H
      have c19b0 : decide (x9_2 < (l1.length : Int)) = false := decide_eq_false c19
      clear c19
      by_cases c37 : x7_2 ≥ 0
      rotate_left
      · rw [if_neg c37] at H
        have c37b0 : decide (0 ≤ x7_2) = false := decide_eq_false c37
        clear c37
        obtain rfl := Option.some.inj H
        go_wp2
        repeat (go_quiet (fail); try go_wp2)
        go_ret
        exact ⟨zE, zB⟩
      rw [if_pos c37] at H
      have c37b0 : decide (0 ≤ x7_2) = true := decide_eq_true c37
      clear c37
      by_cases c38 : 0 ≤ a0_0
      rotate_left
      · rw [if_neg c38] at H
        exact absurd H (by simp)
      rw [if_pos c38] at H
      have c38b0 : decide (0 ≤ a0_0) = true := decide_eq_true c38
      clear c38
      by_cases c39 : a0_0 < (l2.length : Int)
      rotate_left
      · rw [if_neg c39] at H
        exact absurd H (by simp)
      rw [if_pos c39] at H
      have c39b0 : decide (a0_0 < (l2.length : Int)) = true := decide_eq_true c39
      clear c39
      obtain rfl := Option.some.inj H
      obtain ⟨hcz40_0, hcz40_1, hcz40_2, hfz40_0, hfz40_1, hfz40_2⟩ := zc3 BK133
      have p135 : 0 ≤ (a0_0 : Int) := of_decide_eq_true zA
      have q135 : a0_0 < (l2.length : Int) := of_decide_eq_true zA
      obtain ⟨ad135, e135, hx135_0⟩ := Kd.at_int HR2.out a0_0 p135 q135
      cases e135
      (try replace hx135_0 := zX HB hx135_0)
      replace p135 := eq_true p135
      replace q135 := eq_true q135
      go_wp2
      repeat (go_quiet (fail); try go_wp2)
      go_ret
      exact ⟨zE, zB⟩
    rw [if_pos c19] at H
    have c19b0 : decide (x9_2 < (l1.length : Int)) = true := decide_eq_true c19
    clear c19
    by_cases c20 : 0 ≤ x9_2
    rotate_left
    · rw [if_neg c20] at H
      exact absurd H (by simp)
    rw [if_pos c20] at H
    have c20b0 : decide (0 ≤ x9_2) = true := decide_eq_true c20
    clear c20
    by_cases c21 : x9_2 < (l0_2.length : Int)
    rotate_left
    · rw [if_neg c21] at H
      exact absurd H (by simp)
    rw [if_pos c21] at H
    have c21b0 : decide (x9_2 < (l0_2.length : Int)) = true := decide_eq_true c21
    clear c21
    have HC22 := zK H
    clear H
    obtain ⟨hcz23_0, hcz23_1, hcz23_2, hfz23_0, hfz23_1, hfz23_2⟩ := zc3 BK133
    have p136 : 0 ≤ (x9_2 : Int) := of_decide_eq_true zA
    have q136 : x9_2 < (l0_2.length : Int) := of_decide_eq_true zA
    obtain ⟨ad136, e136, hx136_0⟩ := Kd.at_int HR0_2.out x9_2 p136 q136
    cases e136
    (try replace hx136_0 := zX HB hx136_0)
    replace p136 := eq_true p136
    replace q136 := eq_true q136
    go_upto_region 9 with (fail)
    repeat (go_quiet (fail); go_upto_region 9 with (fail))
    go_cut [67] (fun v67 wc => ∃ (kq : Nat) (x67_21 : Bool), v67 = .bool x67_21 ∧ Aside0 (spec_l11Access.j2 kq l1 l2 x7_2 x8_2 x9_2 (rd l0_2 x9_2) x67_21 a0_0 a0_1 l0_2 = some r) ∧ Aside0 (kq ≤ k2) ∧ Aside0 (wc.heap[gb133]? = some (.cells #[.int .i64 a0_0, .int .i64 a0_1, (.slice (some ad136) l0_2.length c0_2)] 129 (0, 0))) ∧ Aside0 (Below w.heap.size w wc))
    case first =>
     have H := HC22.out
     clear HC22
     by_cases c24 : (rd l1 x9_2) = 1
     rotate_left
     · rw [if_neg c24] at H
       have c24b0 : ((rd l1 x9_2) == 1) = false := beq_eq_false_iff_ne.mpr c24
       have c24b1 : ((rd l1 x9_2) != 1) = true := bne_iff_ne.mpr c24
       (first | rw [c24b0] | (simp only [i64_w, i32_w]; rw [c24b0]) | skip)
       have H' := zK H
       clear H
       have p137 : 0 ≤ (x9_2 : Int) := of_decide_eq_true zA
       have q137 : x9_2 < (l1.length : Int) := of_decide_eq_true zA
       obtain ⟨ad137, e137, hx137_0⟩ := Kd.at_int HR1.out x9_2 p137 q137
       cases e137
       (try replace hx137_0 := zX HB hx137_0)
       replace p137 := eq_true p137
       replace q137 := eq_true q137
       go_wp2
       repeat (go_quiet (fail); try go_wp2)
       go_meet
       case rel => exact ⟨_, (false), zR, H', ⟨by have := HJ3.out; have := HK2.out; first | omega | exact Nat.le_refl _⟩, ⟨zM BK133⟩, ⟨zB⟩⟩
     rw [if_pos c24] at H
     have c24b0 : ((rd l1 x9_2) == 1) = true := beq_iff_eq.mpr c24
     have c24b1 : ((rd l1 x9_2) != 1) = false := bne_eq_false_iff_eq.mpr c24
     clear c24
     (first | rw [c24b0] | (simp only [i64_w, i32_w]; rw [c24b0]) | skip)
     have H' := zK H
     clear H
     have p137 : 0 ≤ (x9_2 : Int) := of_decide_eq_true zA
     have q137 : x9_2 < (l1.length : Int) := of_decide_eq_true zA
     obtain ⟨ad137, e137, hx137_0⟩ := Kd.at_int HR1.out x9_2 p137 q137
     cases e137
     (try replace hx137_0 := zX HB hx137_0)
     replace p137 := eq_true p137
     replace q137 := eq_true q137
     go_wp2
     repeat (go_quiet (fail); try go_wp2)
     go_meet
     case rel => exact ⟨_, (((rd l0_2 x9_2) == 0)), zR, H', ⟨by have := HJ3.out; have := HK2.out; first | omega | exact Nat.le_refl _⟩, ⟨zM BK133⟩, ⟨zB⟩⟩
    case rest =>
     clear HC22
     try clear c1
     try clear p1
     try clear q1
     try clear hx1
     try clear c2
     try clear p2
     try clear c6
     try clear c6b0
     try clear c8
     try clear c8b0
     try clear c10
     try clear c10b0
     try clear c10b1
     try clear c10b2
     try clear c11
     try clear c11b0
     try clear c13
     try clear c13b0
     try clear p13
     try clear q13
     try clear hx13
     try clear c14
     try clear c14b0
     try clear c17
     try clear c19
     try clear c19b0
     try clear c20
     try clear c20b0
     try clear c21
     try clear c21b0
     try clear c24
     try clear c24b0
     try clear c24b1
     try clear hcz12_0 hcz12_1 hcz12_2 hfz12_0 hfz12_1 hfz12_2
     try clear hcz15_0 hcz15_1 hcz15_2 hfz15_0 hfz15_1 hfz15_2
     try clear hcz16_0 hcz16_1 hcz16_2 hfz16_0 hfz16_1 hfz16_2
     try clear hcz18_0 hcz18_1 hcz18_2 hfz18_0 hfz18_1 hfz18_2
     try clear hcz23_0 hcz23_1 hcz23_2 hfz23_0 hfz23_1 hfz23_2
     try clear hcz7_0 hcz7_1 hcz7_2 hfz7_0 hfz7_1 hfz7_2
     try clear hcz9_0 hcz9_1 hcz9_2 hfz9_0 hfz9_1 hfz9_2
     try clear hx134_0
     try clear hx136_0
     try clear hx137_0
     try clear p1
     try clear p13
     try clear p134
     try clear p136
     try clear p137
     try clear p2
     try clear q1
     try clear q13
     try clear q134
     try clear q136
     try clear q137
     obtain ⟨kq, x67_21, rfl, HA, HJ21, BK133, HB⟩ := hcut
     cases kq with
     | zero => exact absurd HA.out (by simp [spec_l11Access.j2])
     | succ kj21 =>
      have H := HA.out
      clear HA
      simp only [spec_l11Access.j2] at H
      by_cases c25 : x67_21 = true
      · subst c25
        have H1 : (spec_l11Access.l0 kj21 l1 l2 x7_2 x8_2 (wrap64 (x9_2 + 1)) a0_0 a0_1 l0_2) = some r := by rw [if_pos rfl] at H; exact H
        clear H
        have H := H1
        clear H1
        have H' := zK H
        clear H
        go_wp2
        repeat (go_quiet (fail); try go_wp2)
        go_roundg kj21
        case measure => have := HJ3.out; have := HK2.out; have := HJ21.out; omega
        case rel => exact ⟨(x7_2), (x8_2), (wrap64 (x9_2 + 1)), zR, zR, zR, H', ⟨by have := HJ3.out; have := HK2.out; have := HJ21.out; omega⟩, ⟨zM BK133⟩, ⟨zB⟩⟩
      replace c25 := Bool.eq_false_iff.mpr c25
      subst c25
      have H1 : (if 0 ≤ x9_2 then (if x9_2 < (l1.length : Int) then (if (rd l1 x9_2) = 1 then (spec_l11Access.j3 kj21 l1 l2 x7_2 x8_2 x9_2 (rd l0_2 x9_2) true a0_0 a0_1 l0_2) else (if (rd l0_2 x9_2) < (-4096) then (spec_l11Access.j3 kj21 l1 l2 x7_2 x8_2 x9_2 (rd l0_2 x9_2) true a0_0 a0_1 l0_2) else (spec_l11Access.j3 kj21 l1 l2 x7_2 x8_2 x9_2 (rd l0_2 x9_2) (decide ((rd l0_2 x9_2) > 4096)) a0_0 a0_1 l0_2))) else (none)) else (none)) = some r := by rw [if_neg (show ¬ (false = true) by decide)] at H; exact H
      clear H
      have H := H1
      clear H1
      have HC26 := zK H
      clear H
      go_upto_region 10 with (fail)
      repeat (go_quiet (fail); go_upto_region 10 with (fail))
      go_cut [80] (fun v80 wc => ∃ (kq : Nat) (x80_25 : Bool), v80 = .bool x80_25 ∧ Aside0 (spec_l11Access.j3 kq l1 l2 x7_2 x8_2 x9_2 (rd l0_2 x9_2) x80_25 a0_0 a0_1 l0_2 = some r) ∧ Aside0 (kq ≤ kj21) ∧ Aside0 (wc.heap[gb133]? = some (.cells #[.int .i64 a0_0, .int .i64 a0_1, (.slice (some ad136) l0_2.length c0_2)] 129 (0, 0))) ∧ Aside0 (Below w.heap.size w wc))
      case first =>
       have H := HC26.out
       clear HC26
       by_cases c27 : 0 ≤ x9_2
       rotate_left
       · rw [if_neg c27] at H
         exact absurd H (by simp)
       rw [if_pos c27] at H
       have c27b0 : decide (0 ≤ x9_2) = true := decide_eq_true c27
       clear c27
       (first | rw [c27b0] | (simp only [i64_w, i32_w]; rw [c27b0]) | skip)
       by_cases c28 : x9_2 < (l1.length : Int)
       rotate_left
       · rw [if_neg c28] at H
         exact absurd H (by simp)
       rw [if_pos c28] at H
       have c28b0 : decide (x9_2 < (l1.length : Int)) = true := decide_eq_true c28
       clear c28
       by_cases c29 : (rd l1 x9_2) = 1
       · rw [if_pos c29] at H
         have c29b0 : ((rd l1 x9_2) == 1) = true := beq_iff_eq.mpr c29
         have c29b1 : ((rd l1 x9_2) != 1) = false := bne_eq_false_iff_eq.mpr c29
         clear c29
         have H' := zK H
         clear H
         have p138 : 0 ≤ (x9_2 : Int) := of_decide_eq_true zA
         have q138 : x9_2 < (l1.length : Int) := of_decide_eq_true zA
         obtain ⟨ad138, e138, hx138_0⟩ := Kd.at_int HR1.out x9_2 p138 q138
         cases e138
         (try replace hx138_0 := zX HB hx138_0)
         replace p138 := eq_true p138
         replace q138 := eq_true q138
         go_wp2
         repeat (go_quiet (fail); try go_wp2)
         go_meet
         case rel => exact ⟨_, (true), zR, H', ⟨by have := HJ3.out; have := HK2.out; have := HJ21.out; first | omega | exact Nat.le_refl _⟩, ⟨zM BK133⟩, ⟨zB⟩⟩
       rw [if_neg c29] at H
       have c29b0 : ((rd l1 x9_2) == 1) = false := beq_eq_false_iff_ne.mpr c29
       have c29b1 : ((rd l1 x9_2) != 1) = true := bne_iff_ne.mpr c29
       by_cases c30 : (rd l0_2 x9_2) < (-4096)
       · rw [if_pos c30] at H
         have c30b0 : decide ((rd l0_2 x9_2) < (-4096)) = true := decide_eq_true c30
         clear c30
         have H' := zK H
         clear H
         have p138 : 0 ≤ (x9_2 : Int) := of_decide_eq_true zA
         have q138 : x9_2 < (l1.length : Int) := of_decide_eq_true zA
         obtain ⟨ad138, e138, hx138_0⟩ := Kd.at_int HR1.out x9_2 p138 q138
         cases e138
         (try replace hx138_0 := zX HB hx138_0)
         replace p138 := eq_true p138
         replace q138 := eq_true q138
         go_wp2
         repeat (go_quiet (fail); try go_wp2)
         go_meet
         case rel => exact ⟨_, (true), zR, H', ⟨by have := HJ3.out; have := HK2.out; have := HJ21.out; first | omega | exact Nat.le_refl _⟩, ⟨zM BK133⟩, ⟨zB⟩⟩
       rw [if_neg c30] at H
       have c30b0 : decide ((rd l0_2 x9_2) < (-4096)) = false := decide_eq_false c30
       clear c30
       have H' := zK H
       clear H
       have p138 : 0 ≤ (x9_2 : Int) := of_decide_eq_true zA
       have q138 : x9_2 < (l1.length : Int) := of_decide_eq_true zA
       obtain ⟨ad138, e138, hx138_0⟩ := Kd.at_int HR1.out x9_2 p138 q138
       cases e138
       (try replace hx138_0 := zX HB hx138_0)
       replace p138 := eq_true p138
       replace q138 := eq_true q138
       go_wp2
       repeat (go_quiet (fail); try go_wp2)
       go_meet
       case rel => exact ⟨_, (decide ((rd l0_2 x9_2) > 4096)), zR, H', ⟨by have := HJ3.out; have := HK2.out; have := HJ21.out; first | omega | exact Nat.le_refl _⟩, ⟨zM BK133⟩, ⟨zB⟩⟩
      case rest =>
       clear HC26
       try clear c1
       try clear p1
       try clear q1
       try clear hx1
       try clear c2
       try clear p2
       try clear c3
       try clear c6
       try clear c6b0
       try clear p6
       try clear c8
       try clear c8b0
       try clear c10
       try clear c10b0
       try clear c10b1
       try clear c10b2
       try clear c11
       try clear c11b0
       try clear c13
       try clear c13b0
       try clear p13
       try clear q13
       try clear hx13
       try clear c14
       try clear c14b0
       try clear c17
       try clear c19
       try clear c19b0
       try clear c20
       try clear c20b0
       try clear c21
       try clear c21b0
       try clear c24
       try clear c24b0
       try clear c24b1
       try clear c25
       try clear c27
       try clear c27b0
       try clear c28
       try clear c28b0
       try clear c29
       try clear c29b0
       try clear c29b1
       try clear c30
       try clear c30b0
       try clear hcz12_0 hcz12_1 hcz12_2 hfz12_0 hfz12_1 hfz12_2
       try clear hcz15_0 hcz15_1 hcz15_2 hfz15_0 hfz15_1 hfz15_2
       try clear hcz16_0 hcz16_1 hcz16_2 hfz16_0 hfz16_1 hfz16_2
       try clear hcz18_0 hcz18_1 hcz18_2 hfz18_0 hfz18_1 hfz18_2
       try clear hcz23_0 hcz23_1 hcz23_2 hfz23_0 hfz23_1 hfz23_2
       try clear hcz7_0 hcz7_1 hcz7_2 hfz7_0 hfz7_1 hfz7_2
       try clear hcz9_0 hcz9_1 hcz9_2 hfz9_0 hfz9_1 hfz9_2
       try clear hx134_0
       try clear hx136_0
       try clear hx137_0
       try clear hx138_0
       try clear p1
       try clear p13
       try clear p134
       try clear p136
       try clear p137
       try clear p138
       try clear p2
       try clear q1
       try clear q13
       try clear q134
       try clear q136
       try clear q137
       try clear q138
       obtain ⟨kq, x80_25, rfl, HA, HJ25, BK133, HB⟩ := hcut
       cases kq with
       | zero => exact absurd HA.out (by simp [spec_l11Access.j3])
       | succ kj25 =>
        have H := HA.out
        clear HA
        simp only [spec_l11Access.j3] at H
        by_cases c31 : x80_25 = true
        · subst c31
          have H1 : (some false) = some r := by rw [if_pos rfl] at H; exact H
          clear H
          have H := H1
          clear H1
          obtain rfl := Option.some.inj H
          go_wp2
          repeat (go_quiet (fail); try go_wp2)
          go_ret
          exact ⟨zE, zB⟩
        replace c31 := Bool.eq_false_iff.mpr c31
        subst c31
        have H1 : (if (rd l0_2 x9_2) < 0 then (if 0 ≤ x9_2 then (if x9_2 < (l1.length : Int) then (spec_l11Access.l0 kj25 l1 l2 (wrap64 (x7_2 + (wrap64 ((rd l0_2 x9_2) * (wrap64 ((rd l1 x9_2) - 1)))))) x8_2 (wrap64 (x9_2 + 1)) a0_0 a0_1 l0_2) else (none)) else (none)) else (if 0 ≤ x9_2 then (if x9_2 < (l1.length : Int) then (spec_l11Access.l0 kj25 l1 l2 x7_2 (wrap64 (x8_2 + (wrap64 ((rd l0_2 x9_2) * (wrap64 ((rd l1 x9_2) - 1)))))) (wrap64 (x9_2 + 1)) a0_0 a0_1 l0_2) else (none)) else (none))) = some r := by rw [if_neg (show ¬ (false = true) by decide)] at H; exact H
        clear H
        have H := H1
        clear H1
        by_cases c32 : (rd l0_2 x9_2) < 0
        · rw [if_pos c32] at H
          have c32b0 : decide ((rd l0_2 x9_2) < 0) = true := decide_eq_true c32
          clear c32
          by_cases c33 : 0 ≤ x9_2
          rotate_left
          · rw [if_neg c33] at H
            exact absurd H (by simp)
          rw [if_pos c33] at H
          have c33b0 : decide (0 ≤ x9_2) = true := decide_eq_true c33
          clear c33
          by_cases c34 : x9_2 < (l1.length : Int)
          rotate_left
          · rw [if_neg c34] at H
            exact absurd H (by simp)
          rw [if_pos c34] at H
          have c34b0 : decide (x9_2 < (l1.length : Int)) = true := decide_eq_true c34
          clear c34
          have H' := zK H
          clear H
          have p139 : 0 ≤ (x9_2 : Int) := of_decide_eq_true zA
          have q139 : x9_2 < (l1.length : Int) := of_decide_eq_true zA
          obtain ⟨ad139, e139, hx139_0⟩ := Kd.at_int HR1.out x9_2 p139 q139
          cases e139
          (try replace hx139_0 := zX HB hx139_0)
          replace p139 := eq_true p139
          replace q139 := eq_true q139
          go_wp2
          repeat (go_quiet (fail); try go_wp2)
          go_roundg kj25
          case measure => have := HJ3.out; have := HK2.out; have := HJ21.out; have := HJ25.out; omega
          case rel => exact ⟨(wrap64 (x7_2 + (wrap64 ((rd l0_2 x9_2) * (wrap64 ((rd l1 x9_2) - 1)))))), (x8_2), (wrap64 (x9_2 + 1)), zR, zR, zR, H', ⟨by have := HJ3.out; have := HK2.out; have := HJ21.out; have := HJ25.out; omega⟩, ⟨zM BK133⟩, ⟨zB⟩⟩
        rw [if_neg c32] at H
        have c32b0 : decide ((rd l0_2 x9_2) < 0) = false := decide_eq_false c32
        clear c32
        by_cases c35 : 0 ≤ x9_2
        rotate_left
        · rw [if_neg c35] at H
          exact absurd H (by simp)
        rw [if_pos c35] at H
        have c35b0 : decide (0 ≤ x9_2) = true := decide_eq_true c35
        clear c35
        by_cases c36 : x9_2 < (l1.length : Int)
        rotate_left
        · rw [if_neg c36] at H
          exact absurd H (by simp)
        rw [if_pos c36] at H
        have c36b0 : decide (x9_2 < (l1.length : Int)) = true := decide_eq_true c36
        clear c36
        have H' := zK H
        clear H
        have p140 : 0 ≤ (x9_2 : Int) := of_decide_eq_true zA
        have q140 : x9_2 < (l1.length : Int) := of_decide_eq_true zA
        obtain ⟨ad140, e140, hx140_0⟩ := Kd.at_int HR1.out x9_2 p140 q140
        cases e140
        (try replace hx140_0 := zX HB hx140_0)
        replace p140 := eq_true p140
        replace q140 := eq_true q140
        go_wp2
        repeat (go_quiet (fail); try go_wp2)
        go_roundg kj25
        case measure => have := HJ3.out; have := HK2.out; have := HJ21.out; have := HJ25.out; omega
        case rel => exact ⟨(x7_2), (wrap64 (x8_2 + (wrap64 ((rd l0_2 x9_2) * (wrap64 ((rd l1 x9_2) - 1)))))), (wrap64 (x9_2 + 1)), zR, zR, zR, H', ⟨by have := HJ3.out; have := HK2.out; have := HJ21.out; have := HJ25.out; omega⟩, ⟨zM BK133⟩, ⟨zB⟩⟩

end Go.Proofs.Ytkfagiojcjnfkaa.PFnExactNestOk
