-- Printed out of the translation by this session's own turned copy of a printer; Lean checks it.
import Derived.Test.YtkfagiojcjnfkaaPFnExactNestOkx0
import Derived.Test.YtkfagiojcjnfkaaPFnExactNestOkx2
import Derived.Test.YtkfagiojcjnfkaaPFnExactNestOkx3
import Derived.Test.YtkfagiojcjnfkaaPFnExactNestOkx4
namespace Go.Proofs.Ytkfagiojcjnfkaa.PFnExactNestOk
open Go.RowKit Go.Proofs.YtkfagiojcjnfkaaW.PrintWords Go.Proofs.YtkfagiojcjnfkaaW.PrintLast Go.Proofs.YtkfagiojcjnfkaaW.PrintMore
attribute [local go_sem] max2_int min2_int max_two min_two max_three min_three max_four min_four   -- for this text's walks alone
set_option linter.unusedVariables false
set_option linter.unusedSimpArgs false

/-! ### spec_l11Kernel: function 88 -/
mutual
def spec_l11Kernel.j0 : Nat → List Int → Bool → List Int → List (S129) → Int → Int → List Int → Bool → List (S204) → Option (Bool)
  | 0, _, _, _, _, _, _, _, _, _ => none
  | k + 1, x1, x39, x142000, x142001, x142002, x142003, x142004, x142005, x142006 => if x39 = true then (some false) else (spec_l11Kernel.l0 k x1 0 x142000 x142001 x142002 x142003 x142004 x142005 x142006)
def spec_l11Kernel.l0 : Nat → List Int → Int → List Int → List (S129) → Int → Int → List Int → Bool → List (S204) → Option (Bool)
  | 0, _, _, _, _, _, _, _, _, _ => none
  | k + 1, x1, x5, x142000, x142001, x142002, x142003, x142004, x142005, x142006 => if x5 < (x142001.length : Int) then (if 0 ≤ x5 then ((spec_l11Access.f k ((rd_T129 x142001 x5).f0) ((rd_T129 x142001 x5).f1) ((rd_T129 x142001 x5).f2) x142000 x1).bind fun t146 => (if t146 = true then (if ((rd_T129 x142001 x5).f0) = x142002 then (some false) else (spec_l11Kernel.l0 k x1 (wrap64 (x5 + 1)) x142000 x142001 x142002 x142003 x142004 x142005 x142006)) else (some false))) else (none)) else (some true)
end
def spec_l11Kernel.f (k : Nat) (l0_0 : List Int) (l0_1 : List (S129)) (a0_2 : Int) (a0_3 : Int) (l0_4 : List Int) (a0_5 : Bool) (l0_6 : List (S204)) (l1 : List Int) : Option (Bool) := if (l0_0.length : Int) > 12 then (spec_l11Kernel.j0 k l1 true l0_0 l0_1 a0_2 a0_3 l0_4 a0_5 l0_6) else (if (l0_1.length : Int) > 30 then (spec_l11Kernel.j0 k l1 true l0_0 l0_1 a0_2 a0_3 l0_4 a0_5 l0_6) else ((spec_l11Product.f k l0_0).bind fun t142 => (if t142 = 0 then (spec_l11Kernel.j0 k l1 true l0_0 l0_1 a0_2 a0_3 l0_4 a0_5 l0_6) else ((spec_l11Code.f k l0_6 (l0_1.length : Int)).bind fun t143 => (if t143 = true then ((spec_l11Access.f k a0_2 a0_3 l0_4 l0_0 l1).bind fun t144 => (spec_l11Kernel.j0 k l1 (!t144) l0_0 l0_1 a0_2 a0_3 l0_4 a0_5 l0_6)) else (spec_l11Kernel.j0 k l1 true l0_0 l0_1 a0_2 a0_3 l0_4 a0_5 l0_6))))))
theorem spec_l11Kernel.mono_l : ∀ k, (∀ y0 y1 y2 y3 y4 y5 y6 y7 y8, LeO (spec_l11Kernel.j0 k y0 y1 y2 y3 y4 y5 y6 y7 y8) (spec_l11Kernel.j0 (k + 1) y0 y1 y2 y3 y4 y5 y6 y7 y8)) ∧ (∀ y0 y1 y2 y3 y4 y5 y6 y7 y8, LeO (spec_l11Kernel.l0 k y0 y1 y2 y3 y4 y5 y6 y7 y8) (spec_l11Kernel.l0 (k + 1) y0 y1 y2 y3 y4 y5 y6 y7 y8))
  | 0 => ⟨fun _ _ _ _ _ _ _ _ _ r h => by simp [spec_l11Kernel.j0] at h, fun _ _ _ _ _ _ _ _ _ r h => by simp [spec_l11Kernel.l0] at h⟩
  | k + 1 => by
    obtain ⟨ih0, ih1⟩ := spec_l11Kernel.mono_l k
    refine ⟨?_, ?_⟩
    all_goals (intros; first | unfold spec_l11Kernel.j0 | unfold spec_l11Kernel.l0)
    all_goals repeat' first
      | (with_reducible exact ih0 _ _ _ _ _ _ _ _ _)
      | (with_reducible exact ih1 _ _ _ _ _ _ _ _ _)
      | (with_reducible exact spec_l11Access.mono _ _ _ _ _ _)
      | (with_reducible exact spec_l11Code.mono _ _ _)
      | (with_reducible exact spec_l11Product.mono _ _)
      | (with_reducible exact LeO.refl _)
      | (with_reducible exact LeO.none _)
      | (with_reducible refine LeO.ite ?_ ?_)
      | (with_reducible refine LeO.bind ?_ (fun _ => ?_))
      | exact ih0 _ _ _ _ _ _ _ _ _
      | exact ih1 _ _ _ _ _ _ _ _ _
      | exact spec_l11Access.mono _ _ _ _ _ _
      | exact spec_l11Code.mono _ _ _
      | exact spec_l11Product.mono _ _
      | exact LeO.none _
      | refine LeO.ite ?_ ?_
      | refine LeO.bind ?_ (fun _ => ?_)
theorem spec_l11Kernel.mono : ∀ a0 a1 a2 a3 a4 a5 a6 a7 k, LeO (spec_l11Kernel.f k a0 a1 a2 a3 a4 a5 a6 a7) (spec_l11Kernel.f (k + 1) a0 a1 a2 a3 a4 a5 a6 a7) := by
  intro a0 a1 a2 a3 a4 a5 a6 a7 k
  obtain ⟨ih0, ih1⟩ := spec_l11Kernel.mono_l k
  unfold spec_l11Kernel.f
  repeat' first
      | (with_reducible exact ih0 _ _ _ _ _ _ _ _ _)
      | (with_reducible exact ih1 _ _ _ _ _ _ _ _ _)
      | (with_reducible exact spec_l11Access.mono _ _ _ _ _ _)
      | (with_reducible exact spec_l11Code.mono _ _ _)
      | (with_reducible exact spec_l11Product.mono _ _)
      | (with_reducible exact LeO.refl _)
      | (with_reducible exact LeO.none _)
      | (with_reducible refine LeO.ite ?_ ?_)
      | (with_reducible refine LeO.bind ?_ (fun _ => ?_))
      | exact ih0 _ _ _ _ _ _ _ _ _
      | exact ih1 _ _ _ _ _ _ _ _ _
      | exact spec_l11Access.mono _ _ _ _ _ _
      | exact spec_l11Code.mono _ _ _
      | exact spec_l11Product.mono _ _
      | exact LeO.none _
      | refine LeO.ite ?_ ?_
      | refine LeO.bind ?_ (fun _ => ?_)
def spec_l11Kernel.T6 : Bool × List (List Nat × List Nat) := (true, [([], []), ([0], [0]), ([], []), ([1, 2], [1, 2]), ([3], [3]), ([], []), ([5], [5]), ([], []), ([4, 6, 7], [4, 6, 7]), ([8], [8]), ([9, 8], [9]), ([10], [10]), ([11, 10], [10, 11]), ([10], [10]), ([12, 13, 10], [10, 12, 13]), ([14, 10], [10, 14]), ([15, 10], [10, 15]), ([10], [10]), ([17, 10], [10, 17]), ([18, 10], [10, 18]), ([16, 19, 10], [10, 16, 19]), ([10, 20], [10, 20])])
def spec_l11Kernel.B6 : List Nat := [0, 1, 0, 7, 15, 0, 32, 0, 255, 511, 1023, 2047, 4095, 2047, 16383, 32767, 65535, 2047, 133119, 395263, 1048575, 2097151]
theorem spec_l11Kernel.tab6 : rtab .any (opsOf Try.f88 6) = spec_l11Kernel.T6 := by kernel_rfl
theorem spec_l11Kernel.bits6 : waitsOk spec_l11Kernel.T6.2 spec_l11Kernel.B6 = true := by kernel_rfl
set_option maxHeartbeats 8000000 in
set_option maxRecDepth 100000 in
theorem spec_l11Kernel.calls (k : Nat) (A0_0 : Option Addr) (c0_0 : Nat) (l0_0 : List Int) (A0_1 : Option Addr) (c0_1 : Nat) (l0_1 : List (S129)) (a0_2 : Int) (a0_3 : Int) (A0_4 : Option Addr) (c0_4 : Nat) (l0_4 : List Int) (a0_5 : Bool) (A0_6 : Option Addr) (c0_6 : Nat) (l0_6 : List (S204)) (A1 : Option Addr) (c1 : Nat) (l1 : List Int) (r : Bool) (w : World) (hr0_0 : Kd.C (Kd.int .i64) w A0_0 l0_0.length l0_0) (hc0_0 : l0_0.length ≤ c0_0) (hr0_1 : Kd.C k129 w A0_1 l0_1.length l0_1) (hc0_1 : l0_1.length ≤ c0_1) (hr0_4 : Kd.C (Kd.int .i64) w A0_4 l0_4.length l0_4) (hc0_4 : l0_4.length ≤ c0_4) (hr0_6 : Kd.C k204 w A0_6 l0_6.length l0_6) (hc0_6 : l0_6.length ≤ c0_6) (hr1 : Kd.C (Kd.int .i64) w A1 l1.length l1) (hc1 : l1.length ≤ c1) (h : spec_l11Kernel.f k l0_0 l0_1 a0_2 a0_3 l0_4 a0_5 l0_6 l1 = some r) :
    Calls Try.prog 88 #[.agg #[.slice A0_0 l0_0.length c0_0, .slice A0_1 l0_1.length c0_1, .int .i64 a0_2, .int .i64 a0_3, .slice A0_4 l0_4.length c0_4, .bool a0_5, .slice A0_6 l0_6.length c0_6], .slice A1 l1.length c1] w fun e w' => e = .returned (.bool r) ∧ Below w.heap.size w w' := by
  have hu132 := Try.underlying132
  have hu129 := Try.underlying129
  have HR0_0 := zK hr0_0
  have HC0_0 := zK hc0_0
  clear hr0_0 hc0_0
  have HR0_1 := zK hr0_1
  have HC0_1 := zK hc0_1
  clear hr0_1 hc0_1
  have HR0_4 := zK hr0_4
  have HC0_4 := zK hc0_4
  clear hr0_4 hc0_4
  have HR0_6 := zK hr0_6
  have HC0_6 := zK hc0_6
  clear hr0_6 hc0_6
  have HR1 := zK hr1
  have HC1 := zK hc1
  clear hr1 hc1
  have HB := zK (Below.refl w.heap.size w)
  have H : (if (l0_0.length : Int) > 12 then (spec_l11Kernel.j0 k l1 true l0_0 l0_1 a0_2 a0_3 l0_4 a0_5 l0_6) else (if (l0_1.length : Int) > 30 then (spec_l11Kernel.j0 k l1 true l0_0 l0_1 a0_2 a0_3 l0_4 a0_5 l0_6) else ((spec_l11Product.f k l0_0).bind fun t142 => (if t142 = 0 then (spec_l11Kernel.j0 k l1 true l0_0 l0_1 a0_2 a0_3 l0_4 a0_5 l0_6) else ((spec_l11Code.f k l0_6 (l0_1.length : Int)).bind fun t143 => (if t143 = true then ((spec_l11Access.f k a0_2 a0_3 l0_4 l0_0 l1).bind fun t144 => (spec_l11Kernel.j0 k l1 (!t144) l0_0 l0_1 a0_2 a0_3 l0_4 a0_5 l0_6)) else (spec_l11Kernel.j0 k l1 true l0_0 l0_1 a0_2 a0_3 l0_4 a0_5 l0_6))))))) = some r := h
  clear h
  have HC3 := zK H
  clear H
  go_enter Try.func88, Try.ntmps88
  go_upto_region 1 with (first | ((with_reducible refine gate_dst (N := 2) rfl ?_); (try (refine gate_guard (by rfl) ?_; dsimp only)); refine zJ 2 #[.slice A0_0 l0_0.length c0_0, .slice A0_1 l0_1.length c0_1, .int .i64 a0_2, .int .i64 a0_3, .slice A0_4 l0_4.length c0_4, .bool a0_5, .slice A0_6 l0_6.length c0_6] 132 ?_; intro gb141 hg w4 hbox hb; have n0_ := zK (zp zB hb); have n1_ := zK (hbox); have n2_ := zK (zI hg zB); have n3_ := zK (zI hg zB); clear HB; have HB := n0_; have BK141 := n1_; have GW141 := n2_; have GE141 := n3_; clear n0_ n1_ n2_ n3_; clear hb hbox hg))
  (try simp only [Act.put, zq1, zq2, zq3])
  go_cut [39] (fun v39 wc => ∃ (kq : Nat) (x39_2 : Bool), v39 = .bool x39_2 ∧ Aside0 (spec_l11Kernel.j0 kq l1 x39_2 l0_0 l0_1 a0_2 a0_3 l0_4 a0_5 l0_6 = some r) ∧ Aside0 (kq ≤ k) ∧ Aside0 (wc.heap[gb141]? = some (.cells #[(.slice A0_0 l0_0.length c0_0), (.slice A0_1 l0_1.length c0_1), .int .i64 a0_2, .int .i64 a0_3, (.slice A0_4 l0_4.length c0_4), .bool a0_5, (.slice A0_6 l0_6.length c0_6)] 132 (0, 0))) ∧ Aside0 (Below w.heap.size w wc))
  case first =>
   have H := HC3.out
   clear HC3
   by_cases c5 : (l0_0.length : Int) > 12
   · rw [if_pos c5] at H
     have c5b0 : decide (12 < (l0_0.length : Int)) = true := decide_eq_true c5
     have c5b1 : decide (12 < l0_0.length) = true := decide_eq_true (by omega)
     clear c5
     (first | rw [c5b0] | (simp only [i64_w, i32_w]; rw [c5b0]) | skip)
     have H' := zK H
     clear H
     obtain ⟨hcz6_0, hcz6_1, hcz6_2, hcz6_3, hcz6_4, hcz6_5, hcz6_6, hfz6_0, hfz6_1, hfz6_2, hfz6_3, hfz6_4, hfz6_5, hfz6_6⟩ := zc7 BK141
     go_wp2
     go_meet
     case rel => exact ⟨_, (true), zR, H', ⟨by first | omega | exact Nat.le_refl _⟩, ⟨zM BK141⟩, ⟨zB⟩⟩
   rw [if_neg c5] at H
   have c5b0 : decide (12 < (l0_0.length : Int)) = false := decide_eq_false c5
   have c5b1 : decide (12 < l0_0.length) = false := decide_eq_false (by omega)
   clear c5
   (first | rw [c5b0] | (simp only [i64_w, i32_w]; rw [c5b0]) | skip)
   by_cases c7 : (l0_1.length : Int) > 30
   · rw [if_pos c7] at H
     have c7b0 : decide (30 < (l0_1.length : Int)) = true := decide_eq_true c7
     have c7b1 : decide (30 < l0_1.length) = true := decide_eq_true (by omega)
     clear c7
     have H' := zK H
     clear H
     obtain ⟨hcz8_0, hcz8_1, hcz8_2, hcz8_3, hcz8_4, hcz8_5, hcz8_6, hfz8_0, hfz8_1, hfz8_2, hfz8_3, hfz8_4, hfz8_5, hfz8_6⟩ := zc7 BK141
     go_wp2
     go_meet
     case rel => exact ⟨_, (true), zR, H', ⟨by first | omega | exact Nat.le_refl _⟩, ⟨zM BK141⟩, ⟨zB⟩⟩
   rw [if_neg c7] at H
   have c7b0 : decide (30 < (l0_1.length : Int)) = false := decide_eq_false c7
   have c7b1 : decide (30 < l0_1.length) = false := decide_eq_false (by omega)
   clear c7
   replace H := Option.bind_eq_some_iff.mp H
   obtain ⟨t142, A90, H⟩ := H
   replace H : (if t142 = 0 then (spec_l11Kernel.j0 k l1 true l0_0 l0_1 a0_2 a0_3 l0_4 a0_5 l0_6) else ((spec_l11Code.f k l0_6 (l0_1.length : Int)).bind fun t143 => (if t143 = true then ((spec_l11Access.f k a0_2 a0_3 l0_4 l0_0 l1).bind fun t144 => (spec_l11Kernel.j0 k l1 (!t144) l0_0 l0_1 a0_2 a0_3 l0_4 a0_5 l0_6)) else (spec_l11Kernel.j0 k l1 true l0_0 l0_1 a0_2 a0_3 l0_4 a0_5 l0_6)))) = some r := H
   have A9 := zK A90
   clear A90
   by_cases c10 : t142 = 0
   · rw [if_pos c10] at H
     have c10b0 : (t142 == 0) = true := beq_iff_eq.mpr c10
     have c10b1 : (t142 != 0) = false := bne_eq_false_iff_eq.mpr c10
     clear c10
     have H' := zK H
     clear H
     obtain ⟨hcz11_0, hcz11_1, hcz11_2, hcz11_3, hcz11_4, hcz11_5, hcz11_6, hfz11_0, hfz11_1, hfz11_2, hfz11_3, hfz11_4, hfz11_5, hfz11_6⟩ := zc7 BK141
     go_wp2_with (first | (go_at_call 89; (with_reducible refine (spec_l11Product.calls k _ _ l0_0 t142 _ ?side1 ?side2 A9.out).mono ?_); (case side1 => exact zC (Kd.C_below HR0_0.out HB.out)); (case side2 => exact HC0_0.out); rintro e w' ⟨rfl, ⟨nd, rfl⟩⟩))
     go_meet
     case rel => exact ⟨_, (true), zR, H', ⟨by first | omega | exact Nat.le_refl _⟩, ⟨zM BK141⟩, ⟨zB⟩⟩
   rw [if_neg c10] at H
   have c10b0 : (t142 == 0) = false := beq_eq_false_iff_ne.mpr c10
   have c10b1 : (t142 != 0) = true := bne_iff_ne.mpr c10
   replace H := Option.bind_eq_some_iff.mp H
   obtain ⟨t143, A120, H⟩ := H
   replace H : (if t143 = true then ((spec_l11Access.f k a0_2 a0_3 l0_4 l0_0 l1).bind fun t144 => (spec_l11Kernel.j0 k l1 (!t144) l0_0 l0_1 a0_2 a0_3 l0_4 a0_5 l0_6)) else (spec_l11Kernel.j0 k l1 true l0_0 l0_1 a0_2 a0_3 l0_4 a0_5 l0_6)) = some r := H
   have A12 := zK A120
   clear A120
   by_cases c13 : t143 = true
   rotate_left
   · replace c13 := Bool.eq_false_iff.mpr c13
     subst c13
     have H1 : (spec_l11Kernel.j0 k l1 true l0_0 l0_1 a0_2 a0_3 l0_4 a0_5 l0_6) = some r := by rw [if_neg (show ¬ (false = true) by decide)] at H; exact H
     clear H
     have H := H1
     clear H1
     have H' := zK H
     clear H
     obtain ⟨hcz19_0, hcz19_1, hcz19_2, hcz19_3, hcz19_4, hcz19_5, hcz19_6, hfz19_0, hfz19_1, hfz19_2, hfz19_3, hfz19_4, hfz19_5, hfz19_6⟩ := zc7 BK141
     go_wp2_with (first | (go_at_call 89; (with_reducible refine (spec_l11Product.calls k _ _ l0_0 t142 _ ?side1 ?side2 A9.out).mono ?_); (case side1 => exact zC (Kd.C_below HR0_0.out HB.out)); (case side2 => exact HC0_0.out); rintro e w' ⟨rfl, ⟨nd, rfl⟩⟩) | (go_at_call 146; (with_reducible refine (spec_l11Code.calls k _ _ l0_6 (l0_1.length : Int) false _ ?side1 ?side2 A12.out).mono ?_); (case side1 => exact zC (Kd.C_below HR0_6.out zB)); (case side2 => exact HC0_6.out); rintro e w20 ⟨rfl, hb⟩; have n0_ := zK (zg (zM BK141) hb); have n1_ := zK (zp zB hb); clear BK141; clear HB; have BK141 := n0_; have HB := n1_; clear n0_ n1_; (try clear hb); (try clear hb2); (try clear hk); (try clear hi)))
     go_meet
     case rel => exact ⟨_, (true), zR, H', ⟨by first | omega | exact Nat.le_refl _⟩, ⟨zM BK141⟩, ⟨zB⟩⟩
   subst c13
   have H1 : ((spec_l11Access.f k a0_2 a0_3 l0_4 l0_0 l1).bind fun t144 => (spec_l11Kernel.j0 k l1 (!t144) l0_0 l0_1 a0_2 a0_3 l0_4 a0_5 l0_6)) = some r := by rw [if_pos rfl] at H; exact H
   clear H
   have H := H1
   clear H1
   replace H := Option.bind_eq_some_iff.mp H
   obtain ⟨t144, A140, H⟩ := H
   replace H : (spec_l11Kernel.j0 k l1 (!t144) l0_0 l0_1 a0_2 a0_3 l0_4 a0_5 l0_6) = some r := H
   have A14 := zK A140
   clear A140
   have H' := zK H
   clear H
   obtain ⟨hcz15_0, hcz15_1, hcz15_2, hcz15_3, hcz15_4, hcz15_5, hcz15_6, hfz15_0, hfz15_1, hfz15_2, hfz15_3, hfz15_4, hfz15_5, hfz15_6⟩ := zc7 BK141
   go_wp2_with (first | (go_at_call 89; (with_reducible refine (spec_l11Product.calls k _ _ l0_0 t142 _ ?side1 ?side2 A9.out).mono ?_); (case side1 => exact zC (Kd.C_below HR0_0.out HB.out)); (case side2 => exact HC0_0.out); rintro e w' ⟨rfl, ⟨nd, rfl⟩⟩) | (go_at_call 146; (with_reducible refine (spec_l11Code.calls k _ _ l0_6 (l0_1.length : Int) true _ ?side1 ?side2 A12.out).mono ?_); (case side1 => exact zC (Kd.C_below HR0_6.out zB)); (case side2 => exact HC0_6.out); rintro e w16 ⟨rfl, hb⟩; have n0_ := zK (zg (zM BK141) hb); have n1_ := zK (zp zB hb); clear BK141; clear HB; have BK141 := n0_; have HB := n1_; clear n0_ n1_; (try clear hb); (try clear hb2); (try clear hk); (try clear hi); obtain ⟨hcz17_0, hcz17_1, hcz17_2, hcz17_3, hcz17_4, hcz17_5, hcz17_6, hfz17_0, hfz17_1, hfz17_2, hfz17_3, hfz17_4, hfz17_5, hfz17_6⟩ := zc7 BK141) | (go_at_call 147; (with_reducible refine (spec_l11Access.calls k a0_2 a0_3 _ _ l0_4 _ _ l0_0 _ _ l1 t144 _ ?side1 ?side2 ?side3 ?side4 ?side5 ?side6 A14.out).mono ?_); (case side1 => exact zC (Kd.C_below HR0_4.out HB.out)); (case side2 => exact HC0_4.out); (case side3 => exact zC (Kd.C_below HR0_0.out HB.out)); (case side4 => exact HC0_0.out); (case side5 => exact zC (Kd.C_below HR1.out HB.out)); (case side6 => exact HC1.out); rintro e w18 ⟨rfl, hb⟩; have n0_ := zK (zg (zM BK141) hb); have n1_ := zK (zp zB hb); clear BK141; clear HB; have BK141 := n0_; have HB := n1_; clear n0_ n1_; (try clear hb); (try clear hb2); (try clear hk); (try clear hi)))
   go_meet
   case rel => exact ⟨_, (!t144), zR, H', ⟨by first | omega | exact Nat.le_refl _⟩, ⟨zM BK141⟩, ⟨zB⟩⟩
  case rest =>
   clear HC3
   try clear c1
   try clear p2
   try clear c5
   try clear c5b0
   try clear c5b1
   try clear c7
   try clear c7b0
   try clear c7b1
   try clear c8
   try clear c10
   try clear c10b0
   try clear c10b1
   try clear c13
   try clear hcz11_0 hcz11_1 hcz11_2 hcz11_3 hcz11_4 hcz11_5 hcz11_6 hfz11_0 hfz11_1 hfz11_2 hfz11_3 hfz11_4 hfz11_5 hfz11_6
   try clear hcz15_0 hcz15_1 hcz15_2 hcz15_3 hcz15_4 hcz15_5 hcz15_6 hfz15_0 hfz15_1 hfz15_2 hfz15_3 hfz15_4 hfz15_5 hfz15_6
   try clear hcz17_0 hcz17_1 hcz17_2 hcz17_3 hcz17_4 hcz17_5 hcz17_6 hfz17_0 hfz17_1 hfz17_2 hfz17_3 hfz17_4 hfz17_5 hfz17_6
   try clear hcz19_0 hcz19_1 hcz19_2 hcz19_3 hcz19_4 hcz19_5 hcz19_6 hfz19_0 hfz19_1 hfz19_2 hfz19_3 hfz19_4 hfz19_5 hfz19_6
   try clear hcz6_0 hcz6_1 hcz6_2 hcz6_3 hcz6_4 hcz6_5 hcz6_6 hfz6_0 hfz6_1 hfz6_2 hfz6_3 hfz6_4 hfz6_5 hfz6_6
   try clear hcz8_0 hcz8_1 hcz8_2 hcz8_3 hcz8_4 hcz8_5 hcz8_6 hfz8_0 hfz8_1 hfz8_2 hfz8_3 hfz8_4 hfz8_5 hfz8_6
   obtain ⟨kq, x39_2, rfl, HA, HJ2, BK141, HB⟩ := hcut
   cases kq with
   | zero => exact absurd HA.out (by simp [spec_l11Kernel.j0])
   | succ kj2 =>
    have H := HA.out
    clear HA
    simp only [spec_l11Kernel.j0] at H
    by_cases c21 : x39_2 = true
    · subst c21
      have H1 : (some false) = some r := by rw [if_pos rfl] at H; exact H
      clear H
      have H := H1
      clear H1
      obtain rfl := Option.some.inj H
      go_wp2
      go_ret
      exact ⟨zE, zB⟩
    replace c21 := Bool.eq_false_iff.mpr c21
    subst c21
    have H1 : (spec_l11Kernel.l0 kj2 l1 0 l0_0 l0_1 a0_2 a0_3 l0_4 a0_5 l0_6) = some r := by rw [if_neg (show ¬ (false = true) by decide)] at H; exact H
    clear H
    have H := H1
    clear H1
    have H' := zK H
    clear H
    go_wp2
    go_loopg [5] kj2 (fun kq v5 w' => ∃ (x5_2 : Int), v5 = .int .i64 x5_2 ∧ Aside0 (spec_l11Kernel.l0 kq l1 x5_2 l0_0 l0_1 a0_2 a0_3 l0_4 a0_5 l0_6 = some r) ∧ Aside0 (kq ≤ kj2) ∧ Aside0 (w'.heap[gb141]? = some (.cells #[(.slice A0_0 l0_0.length c0_0), (.slice A0_1 l0_1.length c0_1), .int .i64 a0_2, .int .i64 a0_3, (.slice A0_4 l0_4.length c0_4), .bool a0_5, (.slice A0_6 l0_6.length c0_6)] 132 (0, 0))) ∧ Aside0 (Below w.heap.size w w'))
    case atStart => exact ⟨(0), zR, H', ⟨Nat.le_refl _⟩, ⟨zM BK141⟩, ⟨zB⟩⟩
    clear H'
    try clear c1
    try clear c2
    try clear p2
    try clear c5
    try clear c5b0
    try clear c5b1
    try clear c7
    try clear c7b0
    try clear c7b1
    try clear c8
    try clear c10
    try clear c10b0
    try clear c10b1
    try clear c13
    try clear c21
    try clear hcz11_0 hcz11_1 hcz11_2 hcz11_3 hcz11_4 hcz11_5 hcz11_6 hfz11_0 hfz11_1 hfz11_2 hfz11_3 hfz11_4 hfz11_5 hfz11_6
    try clear hcz15_0 hcz15_1 hcz15_2 hcz15_3 hcz15_4 hcz15_5 hcz15_6 hfz15_0 hfz15_1 hfz15_2 hfz15_3 hfz15_4 hfz15_5 hfz15_6
    try clear hcz17_0 hcz17_1 hcz17_2 hcz17_3 hcz17_4 hcz17_5 hcz17_6 hfz17_0 hfz17_1 hfz17_2 hfz17_3 hfz17_4 hfz17_5 hfz17_6
    try clear hcz19_0 hcz19_1 hcz19_2 hcz19_3 hcz19_4 hcz19_5 hcz19_6 hfz19_0 hfz19_1 hfz19_2 hfz19_3 hfz19_4 hfz19_5 hfz19_6
    try clear hcz6_0 hcz6_1 hcz6_2 hcz6_3 hcz6_4 hcz6_5 hcz6_6 hfz6_0 hfz6_1 hfz6_2 hfz6_3 hfz6_4 hfz6_5 hfz6_6
    try clear hcz8_0 hcz8_1 hcz8_2 hcz8_3 hcz8_4 hcz8_5 hcz8_6 hfz8_0 hfz8_1 hfz8_2 hfz8_3 hfz8_4 hfz8_5 hfz8_6
    try clear p2
    obtain ⟨x5_2, rfl, HA, HK2, BK141, HB⟩ := hrel
    rcases gk with _ | k2
    · exact absurd HA.out (by simp [spec_l11Kernel.l0])
    have H := HA.out
    clear HA
    simp only [spec_l11Kernel.l0] at H
    by_cases c22 : x5_2 < (l0_1.length : Int)
    rotate_left
    · rw [if_neg c22] at H
      have c22b0 : decide (x5_2 < (l0_1.length : Int)) = false := decide_eq_false c22
      clear c22
      obtain rfl := Option.some.inj H
      obtain ⟨hcz36_0, hcz36_1, hcz36_2, hcz36_3, hcz36_4, hcz36_5, hcz36_6, hfz36_0, hfz36_1, hfz36_2, hfz36_3, hfz36_4, hfz36_5, hfz36_6⟩ := zc7 BK141
      go_wp2
      go_ret
      exact ⟨zE, zB⟩
    rw [if_pos c22] at H
    have c22b0 : decide (x5_2 < (l0_1.length : Int)) = true := decide_eq_true c22
    clear c22
    by_cases c23 : 0 ≤ x5_2
    rotate_left
    · rw [if_neg c23] at H
      exact absurd H (by simp)
    rw [if_pos c23] at H
    have c23b0 : decide (0 ≤ x5_2) = true := decide_eq_true c23
    clear c23
    replace H := Option.bind_eq_some_iff.mp H
    obtain ⟨t146, A240, H⟩ := H
    replace H : (if t146 = true then (if ((rd_T129 l0_1 x5_2).f0) = a0_2 then (some false) else (spec_l11Kernel.l0 k2 l1 (wrap64 (x5_2 + 1)) l0_0 l0_1 a0_2 a0_3 l0_4 a0_5 l0_6)) else (some false)) = some r := H
    have A24 := zK A240
    clear A240
    by_cases c25 : t146 = true
    rotate_left
    · replace c25 := Bool.eq_false_iff.mpr c25
      subst c25
      have H1 : (some false) = some r := by rw [if_neg (show ¬ (false = true) by decide)] at H; exact H
      clear H
      have H := H1
      clear H1
      obtain rfl := Option.some.inj H
      obtain ⟨hcz33_0, hcz33_1, hcz33_2, hcz33_3, hcz33_4, hcz33_5, hcz33_6, hfz33_0, hfz33_1, hfz33_2, hfz33_3, hfz33_4, hfz33_5, hfz33_6⟩ := zc7 BK141
      try go_wp2
      have n0_ := zK (zd BK141.out)
      have n1_ := zK (ze HB.out)
      clear BK141
      clear HB
      have BK141 := n0_
      have HB := n1_
      clear n0_ n1_
      have p145 : 0 ≤ (x5_2 : Int) := of_decide_eq_true zA
      have q145 : x5_2 < (l0_1.length : Int) := of_decide_eq_true zA
      obtain ⟨ad145, A145_2, c145_2, e145, hx145_0, hx145_1, hx145_2, hl145_2, hi145_2⟩ := at_T129 HR0_1.out x5_2 p145 q145
      have hw145_2 := hx145_2
      have hw145_1 := hx145_1
      have hw145_0 := hx145_0
      cases e145
      (try replace hx145_0 := zX HB hx145_0)
      (try replace hx145_1 := zX HB hx145_1)
      (try replace hx145_2 := zX HB hx145_2)
      have HR145_2 := zK hi145_2
      have HC145_2 := zK hl145_2
      clear hi145_2 hl145_2
      replace p145 := eq_true p145
      replace q145 := eq_true q145
      refine start_ (n := 22) (S := fun w' => w'.cell? ⟨gb141, 0, none⟩ = some (.slice A0_0 l0_0.length c0_0) ∧ w'.cell? ⟨gb141, 1, none⟩ = some (.slice (some ad145) l0_1.length c0_1) ∧ w'.cell? ⟨gb141, 2, none⟩ = some (.int .i64 a0_2) ∧ w'.cell? ⟨gb141, 3, none⟩ = some (.int .i64 a0_3) ∧ w'.cell? ⟨gb141, 4, none⟩ = some (.slice A0_4 l0_4.length c0_4) ∧ w'.cell? ⟨gb141, 5, none⟩ = some (.bool a0_5) ∧ w'.cell? ⟨gb141, 6, none⟩ = some (.slice A0_6 l0_6.length c0_6) ∧ w'.cell? (ad145.add ((x5_2).toNat * 3)) = some (.int .i64 ((rd_T129 l0_1 x5_2).f0)) ∧ w'.cell? ⟨(ad145.add ((x5_2).toNat * 3)).block, (ad145.add ((x5_2).toNat * 3)).off + 1, none⟩ = some (.int .i64 ((rd_T129 l0_1 x5_2).f1)) ∧ w'.cell? ⟨(ad145.add ((x5_2).toNat * 3)).block, (ad145.add ((x5_2).toNat * 3)).off + 2, none⟩ = some (.slice A145_2 ((rd_T129 l0_1 x5_2).f2).length c145_2)) (ds := []) (bl 22 0) (by kernel_rfl) rfl (by kernel_rfl) ⟨zy BK141 0, zy BK141 1, zy BK141 2, zy BK141 3, zy BK141 4, zy BK141 5, zy BK141 6, (zX HB hw145_0), (zX HB hw145_1), (zX HB hw145_2)⟩ (fun hHeld => ?_); refine with_tabW spec_l11Kernel.tab6 spec_l11Kernel.bits6 (fun HT_ HW_ => ?_)
      generalize wr.drew = w34 at BK141 HB HR145_2 hx145_0 hx145_1 hx145_2 hHeld ⊢
      refine zP 0 47 (bl 22 1) HT_ ?_
      refine zP 2 49 (bl 22 5) HT_ ?_
      refine zP 5 52 (bl 22 37) HT_ ?_
      refine zP 7 54 (bl 22 165) HT_ ?_
      refine zT 1 48 (bl 22 167) rfl rfl HT_ HW_ hHeld (by rintro w' ⟨s0, s1, s2, s3, s4, s5, s6, s7, s8, s9⟩; go_simp; with_reducible rfl) ?_
      refine zP 3 50 (bl 22 175) HT_ ?_
      refine zT 4 51 (bl 22 191) rfl rfl HT_ HW_ hHeld (by rintro w' ⟨s0, s1, s2, s3, s4, s5, s6, s7, s8, s9⟩; go_simp; with_reducible rfl) ?_
      refine zT 6 53 (bl 22 255) rfl rfl HT_ HW_ hHeld (by rintro w' ⟨s0, s1, s2, s3, s4, s5, s6, s7, s8, s9⟩; go_simp; with_reducible rfl) ?_
      refine one_ (i := 8) (N := some 55) (bl 22 511) rfl rfl (one_of HT_.out (by kernel_rfl)) (by decide) (fun K hK => ?_)
      refine goes_ Try.func147 (by kernel_rfl) rfl #[.agg #[.int .i64 ((rd_T129 l0_1 x5_2).f0), .int .i64 ((rd_T129 l0_1 x5_2).f1), .slice A145_2 ((rd_T129 l0_1 x5_2).f2).length c145_2], .slice A0_0 l0_0.length c0_0, .slice A1 l1.length c1] (by rfl) rfl rfl zL ?_
      with_reducible refine (spec_l11Access.calls k2 ((rd_T129 l0_1 x5_2).f0) ((rd_T129 l0_1 x5_2).f1) _ _ ((rd_T129 l0_1 x5_2).f2) _ _ l0_0 _ _ l1 false _ ?side1 ?side2 ?side3 ?side4 ?side5 ?side6 A24.out).mono ?_
      (case side1 => exact zC (Kd.C_below HR145_2.out HB.out))
      (case side2 => exact HC145_2.out)
      (case side3 => exact zC (Kd.C_below HR0_0.out HB.out))
      (case side4 => exact HC0_0.out)
      (case side5 => exact zC (Kd.C_below HR1.out HB.out))
      (case side6 => exact HC1.out)
      rintro e w35 ⟨rfl, hb⟩
      refine ⟨_, rfl, ?_⟩
      have n0_ := zK (zg (zM BK141) hb)
      have n1_ := zK (zp zB hb)
      clear BK141
      clear HB
      have BK141 := n0_
      have HB := n1_
      clear n0_ n1_
      (try clear hb)
      (try clear hb2)
      (try clear hk)
      (try clear hi)
      refine hK.out _ _ ⟨zy BK141 0, zy BK141 1, zy BK141 2, zy BK141 3, zy BK141 4, zy BK141 5, zy BK141 6, (zX HB hw145_0), (zX HB hw145_1), (zX HB hw145_2)⟩ (fun hHeld => ?_)
      clear hK K
      refine zU 55 ?_
      refine zP 9 56 (bl 22 1023) HT_ ?_
      refine zP 10 57 (bl 22 2047) HT_ ?_
      refine zO 11 58 (bl 22 4095) HT_ ?_
      refine zO 12 59 (bl 22 8191) HT_ ?_
      refine zO 13 60 (bl 22 16383) HT_ ?_
      refine zO 14 61 (bl 22 32767) HT_ ?_
      refine zO 15 62 (bl 22 65535) HT_ ?_
      refine zO 16 63 (bl 22 131071) HT_ ?_
      refine zO 17 64 (bl 22 262143) HT_ ?_
      refine zO 18 65 (bl 22 524287) HT_ ?_
      refine zO 19 66 (bl 22 1048575) HT_ ?_
      refine zO 20 67 (bl 22 2097151) HT_ ?_
      refine zP 21 68 (bl 22 4194303) HT_ ?_
      refine done_ (done_of HT_.out (by kernel_rfl)) ?_
      try go_wp2
      go_ret
      exact ⟨zE, zB⟩
    subst c25
    have H1 : (if ((rd_T129 l0_1 x5_2).f0) = a0_2 then (some false) else (spec_l11Kernel.l0 k2 l1 (wrap64 (x5_2 + 1)) l0_0 l0_1 a0_2 a0_3 l0_4 a0_5 l0_6)) = some r := by rw [if_pos rfl] at H; exact H
    clear H
    have H := H1
    clear H1
    by_cases c26 : ((rd_T129 l0_1 x5_2).f0) = a0_2
    · rw [if_pos c26] at H
      have c26b0 : (((rd_T129 l0_1 x5_2).f0) == a0_2) = true := beq_iff_eq.mpr c26
      have c26b1 : (((rd_T129 l0_1 x5_2).f0) != a0_2) = false := bne_eq_false_iff_eq.mpr c26
      clear c26
      obtain rfl := Option.some.inj H
      obtain ⟨hcz27_0, hcz27_1, hcz27_2, hcz27_3, hcz27_4, hcz27_5, hcz27_6, hfz27_0, hfz27_1, hfz27_2, hfz27_3, hfz27_4, hfz27_5, hfz27_6⟩ := zc7 BK141
      try go_wp2
      have n0_ := zK (zd BK141.out)
      have n1_ := zK (ze HB.out)
      clear BK141
      clear HB
      have BK141 := n0_
      have HB := n1_
      clear n0_ n1_
      have p145 : 0 ≤ (x5_2 : Int) := of_decide_eq_true zA
      have q145 : x5_2 < (l0_1.length : Int) := of_decide_eq_true zA
      obtain ⟨ad145, A145_2, c145_2, e145, hx145_0, hx145_1, hx145_2, hl145_2, hi145_2⟩ := at_T129 HR0_1.out x5_2 p145 q145
      have hw145_2 := hx145_2
      have hw145_1 := hx145_1
      have hw145_0 := hx145_0
      cases e145
      (try replace hx145_0 := zX HB hx145_0)
      (try replace hx145_1 := zX HB hx145_1)
      (try replace hx145_2 := zX HB hx145_2)
      have HR145_2 := zK hi145_2
      have HC145_2 := zK hl145_2
      clear hi145_2 hl145_2
      replace p145 := eq_true p145
      replace q145 := eq_true q145
      have p147 : 0 ≤ (x5_2 : Int) := of_decide_eq_true zA
      have q147 : x5_2 < (l0_1.length : Int) := of_decide_eq_true zA
      obtain ⟨ad147, A147_2, c147_2, e147, hx147_0, hx147_1, hx147_2, hl147_2, hi147_2⟩ := at_T129 HR0_1.out x5_2 p147 q147
      have hw147_2 := hx147_2
      have hw147_1 := hx147_1
      have hw147_0 := hx147_0
      obtain rfl : ad145 = ad147 := (by injection e147)
      (try replace hx147_0 := zX HB hx147_0)
      (try replace hx147_1 := zX HB hx147_1)
      (try replace hx147_2 := zX HB hx147_2)
      have HR147_2 := zK hi147_2
      have HC147_2 := zK hl147_2
      clear hi147_2 hl147_2
      replace p147 := eq_true p147
      replace q147 := eq_true q147
      refine start_ (n := 22) (S := fun w' => w'.cell? ⟨gb141, 0, none⟩ = some (.slice A0_0 l0_0.length c0_0) ∧ w'.cell? ⟨gb141, 1, none⟩ = some (.slice (some ad145) l0_1.length c0_1) ∧ w'.cell? ⟨gb141, 2, none⟩ = some (.int .i64 a0_2) ∧ w'.cell? ⟨gb141, 3, none⟩ = some (.int .i64 a0_3) ∧ w'.cell? ⟨gb141, 4, none⟩ = some (.slice A0_4 l0_4.length c0_4) ∧ w'.cell? ⟨gb141, 5, none⟩ = some (.bool a0_5) ∧ w'.cell? ⟨gb141, 6, none⟩ = some (.slice A0_6 l0_6.length c0_6) ∧ w'.cell? (ad145.add ((x5_2).toNat * 3)) = some (.int .i64 ((rd_T129 l0_1 x5_2).f0)) ∧ w'.cell? ⟨(ad145.add ((x5_2).toNat * 3)).block, (ad145.add ((x5_2).toNat * 3)).off + 1, none⟩ = some (.int .i64 ((rd_T129 l0_1 x5_2).f1)) ∧ w'.cell? ⟨(ad145.add ((x5_2).toNat * 3)).block, (ad145.add ((x5_2).toNat * 3)).off + 2, none⟩ = some (.slice A145_2 ((rd_T129 l0_1 x5_2).f2).length c145_2) ∧ w'.cell? (ad145.add ((x5_2).toNat * 3)) = some (.int .i64 ((rd_T129 l0_1 x5_2).f0)) ∧ w'.cell? ⟨(ad145.add ((x5_2).toNat * 3)).block, (ad145.add ((x5_2).toNat * 3)).off + 1, none⟩ = some (.int .i64 ((rd_T129 l0_1 x5_2).f1)) ∧ w'.cell? ⟨(ad145.add ((x5_2).toNat * 3)).block, (ad145.add ((x5_2).toNat * 3)).off + 2, none⟩ = some (.slice A147_2 ((rd_T129 l0_1 x5_2).f2).length c147_2)) (ds := []) (bl 22 0) (by kernel_rfl) rfl (by kernel_rfl) ⟨zy BK141 0, zy BK141 1, zy BK141 2, zy BK141 3, zy BK141 4, zy BK141 5, zy BK141 6, (zX HB hw145_0), (zX HB hw145_1), (zX HB hw145_2), (zX HB hw147_0), (zX HB hw147_1), (zX HB hw147_2)⟩ (fun hHeld => ?_); refine with_tabW spec_l11Kernel.tab6 spec_l11Kernel.bits6 (fun HT_ HW_ => ?_)
      generalize wr.drew = w28 at BK141 HB HR145_2 HR147_2 hx145_0 hx145_1 hx145_2 hx147_0 hx147_1 hx147_2 hHeld ⊢
      refine zP 0 47 (bl 22 1) HT_ ?_
      refine zP 2 49 (bl 22 5) HT_ ?_
      refine zP 5 52 (bl 22 37) HT_ ?_
      refine zP 7 54 (bl 22 165) HT_ ?_
      refine zT 1 48 (bl 22 167) rfl rfl HT_ HW_ hHeld (by rintro w' ⟨s0, s1, s2, s3, s4, s5, s6, s7, s8, s9, s10, s11, s12⟩; go_simp; with_reducible rfl) ?_
      refine zP 3 50 (bl 22 175) HT_ ?_
      refine zT 4 51 (bl 22 191) rfl rfl HT_ HW_ hHeld (by rintro w' ⟨s0, s1, s2, s3, s4, s5, s6, s7, s8, s9, s10, s11, s12⟩; go_simp; with_reducible rfl) ?_
      refine zT 6 53 (bl 22 255) rfl rfl HT_ HW_ hHeld (by rintro w' ⟨s0, s1, s2, s3, s4, s5, s6, s7, s8, s9, s10, s11, s12⟩; go_simp; with_reducible rfl) ?_
      refine one_ (i := 8) (N := some 55) (bl 22 511) rfl rfl (one_of HT_.out (by kernel_rfl)) (by decide) (fun K hK => ?_)
      refine goes_ Try.func147 (by kernel_rfl) rfl #[.agg #[.int .i64 ((rd_T129 l0_1 x5_2).f0), .int .i64 ((rd_T129 l0_1 x5_2).f1), .slice A145_2 ((rd_T129 l0_1 x5_2).f2).length c145_2], .slice A0_0 l0_0.length c0_0, .slice A1 l1.length c1] (by rfl) rfl rfl zL ?_
      with_reducible refine (spec_l11Access.calls k2 ((rd_T129 l0_1 x5_2).f0) ((rd_T129 l0_1 x5_2).f1) _ _ ((rd_T129 l0_1 x5_2).f2) _ _ l0_0 _ _ l1 true _ ?side1 ?side2 ?side3 ?side4 ?side5 ?side6 A24.out).mono ?_
      (case side1 => exact zC (Kd.C_below HR145_2.out HB.out))
      (case side2 => exact HC145_2.out)
      (case side3 => exact zC (Kd.C_below HR0_0.out HB.out))
      (case side4 => exact HC0_0.out)
      (case side5 => exact zC (Kd.C_below HR1.out HB.out))
      (case side6 => exact HC1.out)
      rintro e w29 ⟨rfl, hb⟩
      refine ⟨_, rfl, ?_⟩
      have n0_ := zK (zg (zM BK141) hb)
      have n1_ := zK (zp zB hb)
      clear BK141
      clear HB
      have BK141 := n0_
      have HB := n1_
      clear n0_ n1_
      (try clear hb)
      (try clear hb2)
      (try clear hk)
      (try clear hi)
      refine hK.out _ _ ⟨zy BK141 0, zy BK141 1, zy BK141 2, zy BK141 3, zy BK141 4, zy BK141 5, zy BK141 6, (zX HB hw145_0), (zX HB hw145_1), (zX HB hw145_2), (zX HB hw147_0), (zX HB hw147_1), (zX HB hw147_2)⟩ (fun hHeld => ?_)
      clear hK K
      refine zU 55 ?_
      refine zP 9 56 (bl 22 1023) HT_ ?_
      refine zP 10 57 (bl 22 2047) HT_ ?_
      refine zP 11 58 (bl 22 4095) HT_ ?_
      refine zP 13 60 (bl 22 12287) HT_ ?_
      refine zP 17 64 (bl 22 143359) HT_ ?_
      refine zP 18 65 (bl 22 405503) HT_ ?_
      refine zT 12 59 (bl 22 409599) rfl rfl HT_ HW_ hHeld (by rintro w' ⟨s0, s1, s2, s3, s4, s5, s6, s7, s8, s9, s10, s11, s12⟩; go_simp; with_reducible rfl) ?_
      refine zP 14 61 (bl 22 425983) HT_ ?_
      refine zP 15 62 (bl 22 458751) HT_ ?_
      refine zT 16 63 (bl 22 524287) rfl rfl HT_ HW_ hHeld (by rintro w' ⟨s0, s1, s2, s3, s4, s5, s6, s7, s8, s9, s10, s11, s12⟩; go_simp; with_reducible rfl) ?_
      refine zT 19 66 (bl 22 1048575) rfl rfl HT_ HW_ hHeld (by rintro w' ⟨s0, s1, s2, s3, s4, s5, s6, s7, s8, s9, s10, s11, s12⟩; go_simp; with_reducible rfl) ?_
      refine zP 20 67 (bl 22 2097151) HT_ ?_
      refine zP 21 68 (bl 22 4194303) HT_ ?_
      refine done_ (done_of HT_.out (by kernel_rfl)) ?_
      try go_wp2
      go_ret
      exact ⟨zE, zB⟩
    rw [if_neg c26] at H
    have c26b0 : (((rd_T129 l0_1 x5_2).f0) == a0_2) = false := beq_eq_false_iff_ne.mpr c26
    have c26b1 : (((rd_T129 l0_1 x5_2).f0) != a0_2) = true := bne_iff_ne.mpr c26
    have H' := zK H
    clear H
    obtain ⟨hcz30_0, hcz30_1, hcz30_2, hcz30_3, hcz30_4, hcz30_5, hcz30_6, hfz30_0, hfz30_1, hfz30_2, hfz30_3, hfz30_4, hfz30_5, hfz30_6⟩ := zc7 BK141
    try go_wp2
    have n0_ := zK (zd BK141.out)
    have n1_ := zK (ze HB.out)
    clear BK141
    clear HB
    have BK141 := n0_
    have HB := n1_
    clear n0_ n1_
    have p145 : 0 ≤ (x5_2 : Int) := of_decide_eq_true zA
    have q145 : x5_2 < (l0_1.length : Int) := of_decide_eq_true zA
    obtain ⟨ad145, A145_2, c145_2, e145, hx145_0, hx145_1, hx145_2, hl145_2, hi145_2⟩ := at_T129 HR0_1.out x5_2 p145 q145
    have hw145_2 := hx145_2
    have hw145_1 := hx145_1
    have hw145_0 := hx145_0
    cases e145
    (try replace hx145_0 := zX HB hx145_0)
    (try replace hx145_1 := zX HB hx145_1)
    (try replace hx145_2 := zX HB hx145_2)
    have HR145_2 := zK hi145_2
    have HC145_2 := zK hl145_2
    clear hi145_2 hl145_2
    replace p145 := eq_true p145
    replace q145 := eq_true q145
    have p147 : 0 ≤ (x5_2 : Int) := of_decide_eq_true zA
    have q147 : x5_2 < (l0_1.length : Int) := of_decide_eq_true zA
    obtain ⟨ad147, A147_2, c147_2, e147, hx147_0, hx147_1, hx147_2, hl147_2, hi147_2⟩ := at_T129 HR0_1.out x5_2 p147 q147
    have hw147_2 := hx147_2
    have hw147_1 := hx147_1
    have hw147_0 := hx147_0
    obtain rfl : ad145 = ad147 := (by injection e147)
    (try replace hx147_0 := zX HB hx147_0)
    (try replace hx147_1 := zX HB hx147_1)
    (try replace hx147_2 := zX HB hx147_2)
    have HR147_2 := zK hi147_2
    have HC147_2 := zK hl147_2
    clear hi147_2 hl147_2
    replace p147 := eq_true p147
    replace q147 := eq_true q147
    refine start_ (n := 22) (S := fun w' => w'.cell? ⟨gb141, 0, none⟩ = some (.slice A0_0 l0_0.length c0_0) ∧ w'.cell? ⟨gb141, 1, none⟩ = some (.slice (some ad145) l0_1.length c0_1) ∧ w'.cell? ⟨gb141, 2, none⟩ = some (.int .i64 a0_2) ∧ w'.cell? ⟨gb141, 3, none⟩ = some (.int .i64 a0_3) ∧ w'.cell? ⟨gb141, 4, none⟩ = some (.slice A0_4 l0_4.length c0_4) ∧ w'.cell? ⟨gb141, 5, none⟩ = some (.bool a0_5) ∧ w'.cell? ⟨gb141, 6, none⟩ = some (.slice A0_6 l0_6.length c0_6) ∧ w'.cell? (ad145.add ((x5_2).toNat * 3)) = some (.int .i64 ((rd_T129 l0_1 x5_2).f0)) ∧ w'.cell? ⟨(ad145.add ((x5_2).toNat * 3)).block, (ad145.add ((x5_2).toNat * 3)).off + 1, none⟩ = some (.int .i64 ((rd_T129 l0_1 x5_2).f1)) ∧ w'.cell? ⟨(ad145.add ((x5_2).toNat * 3)).block, (ad145.add ((x5_2).toNat * 3)).off + 2, none⟩ = some (.slice A145_2 ((rd_T129 l0_1 x5_2).f2).length c145_2) ∧ w'.cell? (ad145.add ((x5_2).toNat * 3)) = some (.int .i64 ((rd_T129 l0_1 x5_2).f0)) ∧ w'.cell? ⟨(ad145.add ((x5_2).toNat * 3)).block, (ad145.add ((x5_2).toNat * 3)).off + 1, none⟩ = some (.int .i64 ((rd_T129 l0_1 x5_2).f1)) ∧ w'.cell? ⟨(ad145.add ((x5_2).toNat * 3)).block, (ad145.add ((x5_2).toNat * 3)).off + 2, none⟩ = some (.slice A147_2 ((rd_T129 l0_1 x5_2).f2).length c147_2)) (ds := []) (bl 22 0) (by kernel_rfl) rfl (by kernel_rfl) ⟨zy BK141 0, zy BK141 1, zy BK141 2, zy BK141 3, zy BK141 4, zy BK141 5, zy BK141 6, (zX HB hw145_0), (zX HB hw145_1), (zX HB hw145_2), (zX HB hw147_0), (zX HB hw147_1), (zX HB hw147_2)⟩ (fun hHeld => ?_); refine with_tabW spec_l11Kernel.tab6 spec_l11Kernel.bits6 (fun HT_ HW_ => ?_)
    generalize wr.drew = w31 at BK141 HB HR145_2 HR147_2 hx145_0 hx145_1 hx145_2 hx147_0 hx147_1 hx147_2 hHeld ⊢
    refine zP 0 47 (bl 22 1) HT_ ?_
    refine zP 2 49 (bl 22 5) HT_ ?_
    refine zP 5 52 (bl 22 37) HT_ ?_
    refine zP 7 54 (bl 22 165) HT_ ?_
    refine zT 1 48 (bl 22 167) rfl rfl HT_ HW_ hHeld (by rintro w' ⟨s0, s1, s2, s3, s4, s5, s6, s7, s8, s9, s10, s11, s12⟩; go_simp; with_reducible rfl) ?_
    refine zP 3 50 (bl 22 175) HT_ ?_
    refine zT 4 51 (bl 22 191) rfl rfl HT_ HW_ hHeld (by rintro w' ⟨s0, s1, s2, s3, s4, s5, s6, s7, s8, s9, s10, s11, s12⟩; go_simp; with_reducible rfl) ?_
    refine zT 6 53 (bl 22 255) rfl rfl HT_ HW_ hHeld (by rintro w' ⟨s0, s1, s2, s3, s4, s5, s6, s7, s8, s9, s10, s11, s12⟩; go_simp; with_reducible rfl) ?_
    refine one_ (i := 8) (N := some 55) (bl 22 511) rfl rfl (one_of HT_.out (by kernel_rfl)) (by decide) (fun K hK => ?_)
    refine goes_ Try.func147 (by kernel_rfl) rfl #[.agg #[.int .i64 ((rd_T129 l0_1 x5_2).f0), .int .i64 ((rd_T129 l0_1 x5_2).f1), .slice A145_2 ((rd_T129 l0_1 x5_2).f2).length c145_2], .slice A0_0 l0_0.length c0_0, .slice A1 l1.length c1] (by rfl) rfl rfl zL ?_
    with_reducible refine (spec_l11Access.calls k2 ((rd_T129 l0_1 x5_2).f0) ((rd_T129 l0_1 x5_2).f1) _ _ ((rd_T129 l0_1 x5_2).f2) _ _ l0_0 _ _ l1 true _ ?side1 ?side2 ?side3 ?side4 ?side5 ?side6 A24.out).mono ?_
    (case side1 => exact zC (Kd.C_below HR145_2.out HB.out))
    (case side2 => exact HC145_2.out)
    (case side3 => exact zC (Kd.C_below HR0_0.out HB.out))
    (case side4 => exact HC0_0.out)
    (case side5 => exact zC (Kd.C_below HR1.out HB.out))
    (case side6 => exact HC1.out)
    rintro e w32 ⟨rfl, hb⟩
    refine ⟨_, rfl, ?_⟩
    have n0_ := zK (zg (zM BK141) hb)
    have n1_ := zK (zp zB hb)
    clear BK141
    clear HB
    have BK141 := n0_
    have HB := n1_
    clear n0_ n1_
    (try clear hb)
    (try clear hb2)
    (try clear hk)
    (try clear hi)
    refine hK.out _ _ ⟨zy BK141 0, zy BK141 1, zy BK141 2, zy BK141 3, zy BK141 4, zy BK141 5, zy BK141 6, (zX HB hw145_0), (zX HB hw145_1), (zX HB hw145_2), (zX HB hw147_0), (zX HB hw147_1), (zX HB hw147_2)⟩ (fun hHeld => ?_)
    clear hK K
    refine zU 55 ?_
    refine zP 9 56 (bl 22 1023) HT_ ?_
    refine zP 10 57 (bl 22 2047) HT_ ?_
    refine zP 11 58 (bl 22 4095) HT_ ?_
    refine zP 13 60 (bl 22 12287) HT_ ?_
    refine zP 17 64 (bl 22 143359) HT_ ?_
    refine zP 18 65 (bl 22 405503) HT_ ?_
    refine zT 12 59 (bl 22 409599) rfl rfl HT_ HW_ hHeld (by rintro w' ⟨s0, s1, s2, s3, s4, s5, s6, s7, s8, s9, s10, s11, s12⟩; go_simp; with_reducible rfl) ?_
    refine zP 14 61 (bl 22 425983) HT_ ?_
    refine zP 15 62 (bl 22 458751) HT_ ?_
    refine zT 16 63 (bl 22 524287) rfl rfl HT_ HW_ hHeld (by rintro w' ⟨s0, s1, s2, s3, s4, s5, s6, s7, s8, s9, s10, s11, s12⟩; go_simp; with_reducible rfl) ?_
    refine zT 19 66 (bl 22 1048575) rfl rfl HT_ HW_ hHeld (by rintro w' ⟨s0, s1, s2, s3, s4, s5, s6, s7, s8, s9, s10, s11, s12⟩; go_simp; with_reducible rfl) ?_
    refine zP 20 67 (bl 22 2097151) HT_ ?_
    refine zP 21 68 (bl 22 4194303) HT_ ?_
    refine done_ (done_of HT_.out (by kernel_rfl)) ?_
    try go_wp2
    go_roundg k2
    case measure => have := HJ2.out; have := HK2.out; omega
    case rel => exact ⟨(wrap64 (x5_2 + 1)), zR, H', ⟨by have := HJ2.out; have := HK2.out; omega⟩, ⟨zM BK141⟩, ⟨zB⟩⟩

end Go.Proofs.Ytkfagiojcjnfkaa.PFnExactNestOk
