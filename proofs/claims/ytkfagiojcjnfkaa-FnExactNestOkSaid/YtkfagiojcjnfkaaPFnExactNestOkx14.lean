-- Printed out of the translation by this session's own turned copy of a printer; Lean checks it.
import Derived.Test.YtkfagiojcjnfkaaPFnExactNestOkx0
import Derived.Test.YtkfagiojcjnfkaaPFnExactNestOkx9
import Derived.Test.YtkfagiojcjnfkaaPFnExactNestOkx13
namespace Go.Proofs.Ytkfagiojcjnfkaa.PFnExactNestOk
open Go.RowKit Go.Proofs.YtkfagiojcjnfkaaW.PrintWords Go.Proofs.YtkfagiojcjnfkaaW.PrintLast Go.Proofs.YtkfagiojcjnfkaaW.PrintMore
attribute [local go_sem] max2_int min2_int max_two min_two max_three min_three max_four min_four   -- for this text's walks alone
set_option linter.unusedVariables false
set_option linter.unusedSimpArgs false

/-! ### impl_NestOk: function 34 -/
mutual
def impl_NestOk.j0 : Nat → Bool → List Int → List Int → List (S125) → List (S132) → List Int → Option (Bool)
  | 0, _, _, _, _, _, _ => none
  | k + 1, x35, x319000, x319001, x319002, x319003, x319004 => if x35 = true then (some false) else (impl_NestOk.l0 k x319000 (x319000.length : Int) 0 x319000 x319001 x319002 x319003 x319004)
def impl_NestOk.l0 : Nat → List Int → Int → Int → List Int → List Int → List (S125) → List (S132) → List Int → Option (Bool)
  | 0, _, _, _, _, _, _, _, _ => none
  | k + 1, x37, x38, x39, x319000, x319001, x319002, x319003, x319004 => if x39 < x38 then (if 0 ≤ x39 then (if x39 < (x37.length : Int) then (if (rd x37 x39) < 0 then (some false) else (if (rd x37 x39) > 4096 then (some false) else (impl_NestOk.l0 k x37 x38 (wrap64 (x39 + 1)) x319000 x319001 x319002 x319003 x319004))) else (none)) else (none)) else (impl_NestOk.l1 k x319004 (x319004.length : Int) 0 x319000 x319001 x319002 x319003 x319004)
def impl_NestOk.l1 : Nat → List Int → Int → Int → List Int → List Int → List (S125) → List (S132) → List Int → Option (Bool)
  | 0, _, _, _, _, _, _, _, _ => none
  | k + 1, x51, x52, x53, x319000, x319001, x319002, x319003, x319004 => if x53 < x52 then (if 0 ≤ x53 then (if x53 < (x51.length : Int) then (if (rd x51 x53) < 0 then (some false) else (if (rd x51 x53) ≥ (x319000.length : Int) then (some false) else (impl_NestOk.l1 k x51 x52 (wrap64 (x53 + 1)) x319000 x319001 x319002 x319003 x319004))) else (none)) else (none)) else ((impl_Nest_given.f x319000 x319001 x319002 x319003 x319004).bind fun bt321 => (if bt321.2 = true then (impl_NestOk.l2 k bt321.1 0 x319003 (x319003.length : Int) 0 x319000 x319001 x319002 x319003 x319004) else (some false)))
def impl_NestOk.l2 : Nat → List Bool → Int → List (S132) → Int → Int → List Int → List Int → List (S125) → List (S132) → List Int → Option (Bool)
  | 0, _, _, _, _, _, _, _, _, _, _ => none
  | k + 1, x7, x9, x75, x76, x77, x319000, x319001, x319002, x319003, x319004 => if x77 < x76 then (if 0 ≤ x77 then (if x77 < (x75.length : Int) then ((impl_Nest_kernelOk.f k x319000 x319001 x319002 x319003 x319004 ((rd_T132 x75 x77).f0) ((rd_T132 x75 x77).f1) ((rd_T132 x75 x77).f2.f0) ((rd_T132 x75 x77).f2.f1) ((rd_T132 x75 x77).f2.f2) ((rd_T132 x75 x77).f3) ((rd_T132 x75 x77).f4) x7).bind fun bt327 => (if bt327.2 = true then (impl_NestOk.l2 k x7 (wrap64 (x9 + bt327.1)) x75 x76 (wrap64 (x77 + 1)) x319000 x319001 x319002 x319003 x319004) else (some false))) else (none)) else (none)) else (some (decide (x9 ≤ 1000000)))
end
def impl_NestOk.f (k : Nat) (l0_0 : List Int) (l0_1 : List Int) (l0_2 : List (S125)) (l0_3 : List (S132)) (l0_4 : List Int) : Option (Bool) := if (l0_0.length : Int) > 200 then (impl_NestOk.j0 k true l0_0 l0_1 l0_2 l0_3 l0_4) else (if (l0_1.length : Int) > 40 then (impl_NestOk.j0 k true l0_0 l0_1 l0_2 l0_3 l0_4) else (if (l0_4.length : Int) > 40 then (impl_NestOk.j0 k true l0_0 l0_1 l0_2 l0_3 l0_4) else (impl_NestOk.j0 k (decide ((l0_3.length : Int) > 400)) l0_0 l0_1 l0_2 l0_3 l0_4)))
theorem impl_NestOk.mono_l : ∀ k, (∀ y0 y1 y2 y3 y4 y5, LeO (impl_NestOk.j0 k y0 y1 y2 y3 y4 y5) (impl_NestOk.j0 (k + 1) y0 y1 y2 y3 y4 y5)) ∧ (∀ y0 y1 y2 y3 y4 y5 y6 y7, LeO (impl_NestOk.l0 k y0 y1 y2 y3 y4 y5 y6 y7) (impl_NestOk.l0 (k + 1) y0 y1 y2 y3 y4 y5 y6 y7)) ∧ (∀ y0 y1 y2 y3 y4 y5 y6 y7, LeO (impl_NestOk.l1 k y0 y1 y2 y3 y4 y5 y6 y7) (impl_NestOk.l1 (k + 1) y0 y1 y2 y3 y4 y5 y6 y7)) ∧ (∀ y0 y1 y2 y3 y4 y5 y6 y7 y8 y9, LeO (impl_NestOk.l2 k y0 y1 y2 y3 y4 y5 y6 y7 y8 y9) (impl_NestOk.l2 (k + 1) y0 y1 y2 y3 y4 y5 y6 y7 y8 y9))
  | 0 => ⟨fun _ _ _ _ _ _ r h => by simp [impl_NestOk.j0] at h, fun _ _ _ _ _ _ _ _ r h => by simp [impl_NestOk.l0] at h, fun _ _ _ _ _ _ _ _ r h => by simp [impl_NestOk.l1] at h, fun _ _ _ _ _ _ _ _ _ _ r h => by simp [impl_NestOk.l2] at h⟩
  | k + 1 => by
    obtain ⟨ih0, ih1, ih2, ih3⟩ := impl_NestOk.mono_l k
    refine ⟨?_, ?_, ?_, ?_⟩
    all_goals (intros; first | unfold impl_NestOk.j0 | unfold impl_NestOk.l0 | unfold impl_NestOk.l1 | unfold impl_NestOk.l2)
    all_goals repeat' first
      | (with_reducible exact ih0 _ _ _ _ _ _)
      | (with_reducible exact ih1 _ _ _ _ _ _ _ _)
      | (with_reducible exact ih2 _ _ _ _ _ _ _ _)
      | (with_reducible exact ih3 _ _ _ _ _ _ _ _ _ _)
      | (with_reducible exact impl_Nest_kernelOk.mono _ _ _ _ _ _ _ _ _ _ _ _ _ _)
      | (with_reducible exact LeO.refl _)
      | (with_reducible exact LeO.none _)
      | (with_reducible refine LeO.ite ?_ ?_)
      | (with_reducible refine LeO.bind ?_ (fun _ => ?_))
      | exact ih0 _ _ _ _ _ _
      | exact ih1 _ _ _ _ _ _ _ _
      | exact ih2 _ _ _ _ _ _ _ _
      | exact ih3 _ _ _ _ _ _ _ _ _ _
      | exact impl_Nest_kernelOk.mono _ _ _ _ _ _ _ _ _ _ _ _ _ _
      | exact LeO.none _
      | refine LeO.ite ?_ ?_
      | refine LeO.bind ?_ (fun _ => ?_)
theorem impl_NestOk.mono : ∀ a0 a1 a2 a3 a4 k, LeO (impl_NestOk.f k a0 a1 a2 a3 a4) (impl_NestOk.f (k + 1) a0 a1 a2 a3 a4) := by
  intro a0 a1 a2 a3 a4 k
  obtain ⟨ih0, ih1, ih2, ih3⟩ := impl_NestOk.mono_l k
  unfold impl_NestOk.f
  repeat' first
      | (with_reducible exact ih0 _ _ _ _ _ _)
      | (with_reducible exact ih1 _ _ _ _ _ _ _ _)
      | (with_reducible exact ih2 _ _ _ _ _ _ _ _)
      | (with_reducible exact ih3 _ _ _ _ _ _ _ _ _ _)
      | (with_reducible exact impl_Nest_kernelOk.mono _ _ _ _ _ _ _ _ _ _ _ _ _ _)
      | (with_reducible exact LeO.refl _)
      | (with_reducible exact LeO.none _)
      | (with_reducible refine LeO.ite ?_ ?_)
      | (with_reducible refine LeO.bind ?_ (fun _ => ?_))
      | exact ih0 _ _ _ _ _ _
      | exact ih1 _ _ _ _ _ _ _ _
      | exact ih2 _ _ _ _ _ _ _ _
      | exact ih3 _ _ _ _ _ _ _ _ _ _
      | exact impl_Nest_kernelOk.mono _ _ _ _ _ _ _ _ _ _ _ _ _ _
      | exact LeO.none _
      | refine LeO.ite ?_ ?_
      | refine LeO.bind ?_ (fun _ => ?_)
set_option maxHeartbeats 8000000 in
set_option maxRecDepth 100000 in
theorem impl_NestOk.calls (k : Nat) (A0_0 : Option Addr) (c0_0 : Nat) (l0_0 : List Int) (A0_1 : Option Addr) (c0_1 : Nat) (l0_1 : List Int) (A0_2 : Option Addr) (c0_2 : Nat) (l0_2 : List (S125)) (A0_3 : Option Addr) (c0_3 : Nat) (l0_3 : List (S132)) (A0_4 : Option Addr) (c0_4 : Nat) (l0_4 : List Int) (r : Bool) (w : World) (hr0_0 : Kd.C (Kd.int .i64) w A0_0 l0_0.length l0_0) (hc0_0 : l0_0.length ≤ c0_0) (hr0_1 : Kd.C (Kd.int .i64) w A0_1 l0_1.length l0_1) (hc0_1 : l0_1.length ≤ c0_1) (hr0_2 : Kd.C k125 w A0_2 l0_2.length l0_2) (hc0_2 : l0_2.length ≤ c0_2) (hr0_3 : Kd.C k132 w A0_3 l0_3.length l0_3) (hc0_3 : l0_3.length ≤ c0_3) (hr0_4 : Kd.C (Kd.int .i64) w A0_4 l0_4.length l0_4) (hc0_4 : l0_4.length ≤ c0_4) (h : impl_NestOk.f k l0_0 l0_1 l0_2 l0_3 l0_4 = some r) :
    Calls Try.prog 34 #[.agg #[.slice A0_0 l0_0.length c0_0, .slice A0_1 l0_1.length c0_1, .slice A0_2 l0_2.length c0_2, .slice A0_3 l0_3.length c0_3, .slice A0_4 l0_4.length c0_4]] w fun e w' => e = .returned (.bool r) ∧ Below w.heap.size w w' := by
  have hu70 := Try.underlying70
  have hu132 := Try.underlying132
  have HR0_0 := zK hr0_0
  have HC0_0 := zK hc0_0
  clear hr0_0 hc0_0
  have HR0_1 := zK hr0_1
  have HC0_1 := zK hc0_1
  clear hr0_1 hc0_1
  have HR0_2 := zK hr0_2
  have HC0_2 := zK hc0_2
  clear hr0_2 hc0_2
  have HR0_3 := zK hr0_3
  have HC0_3 := zK hc0_3
  clear hr0_3 hc0_3
  have HR0_4 := zK hr0_4
  have HC0_4 := zK hc0_4
  clear hr0_4 hc0_4
  have HB := zK (Below.refl w.heap.size w)
  have H : (if (l0_0.length : Int) > 200 then (impl_NestOk.j0 k true l0_0 l0_1 l0_2 l0_3 l0_4) else (if (l0_1.length : Int) > 40 then (impl_NestOk.j0 k true l0_0 l0_1 l0_2 l0_3 l0_4) else (if (l0_4.length : Int) > 40 then (impl_NestOk.j0 k true l0_0 l0_1 l0_2 l0_3 l0_4) else (impl_NestOk.j0 k (decide ((l0_3.length : Int) > 400)) l0_0 l0_1 l0_2 l0_3 l0_4)))) = some r := h
  clear h
  have HC2 := zK H
  clear H
  go_enter Try.func34, Try.ntmps34
  go_upto_region 1 with (first | ((with_reducible refine gate_dst (N := 1) rfl ?_); (try (refine gate_guard (by rfl) ?_; dsimp only)); refine zJ 1 #[.slice A0_0 l0_0.length c0_0, .slice A0_1 l0_1.length c0_1, .slice A0_2 l0_2.length c0_2, .slice A0_3 l0_3.length c0_3, .slice A0_4 l0_4.length c0_4] 70 ?_; intro gb318 hg w3 hbox hb; have n0_ := zK (zp zB hb); have n1_ := zK (hbox); have n2_ := zK (zI hg zB); have n3_ := zK (zI hg zB); clear HB; have HB := n0_; have BK318 := n1_; have GW318 := n2_; have GE318 := n3_; clear n0_ n1_ n2_ n3_; clear hb hbox hg))
  (try simp only [Act.put, zq1, zq2, zq3])
  go_cut [35] (fun v35 wc => ∃ (kq : Nat) (x35_1 : Bool), v35 = .bool x35_1 ∧ Aside0 (impl_NestOk.j0 kq x35_1 l0_0 l0_1 l0_2 l0_3 l0_4 = some r) ∧ Aside0 (kq ≤ k) ∧ Aside0 (wc.heap[gb318]? = some (.cells #[(.slice A0_0 l0_0.length c0_0), (.slice A0_1 l0_1.length c0_1), (.slice A0_2 l0_2.length c0_2), (.slice A0_3 l0_3.length c0_3), (.slice A0_4 l0_4.length c0_4)] 70 (0, 0))) ∧ Aside0 (Below w.heap.size w wc))
  case first =>
   have H := HC2.out
   clear HC2
   by_cases c4 : (l0_0.length : Int) > 200
   · rw [if_pos c4] at H
     have c4b0 : decide (200 < (l0_0.length : Int)) = true := decide_eq_true c4
     have c4b1 : decide (200 < l0_0.length) = true := decide_eq_true (by omega)
     clear c4
     (first | rw [c4b0] | (simp only [i64_w, i32_w]; rw [c4b0]) | skip)
     have H' := zK H
     clear H
     obtain ⟨hcz5_0, hcz5_1, hcz5_2, hcz5_3, hcz5_4, hfz5_0, hfz5_1, hfz5_2, hfz5_3, hfz5_4⟩ := zc5 BK318
     go_wp2
     go_meet
     case rel => exact ⟨_, (true), zR, H', ⟨by first | omega | exact Nat.le_refl _⟩, ⟨zM BK318⟩, ⟨zB⟩⟩
   rw [if_neg c4] at H
   have c4b0 : decide (200 < (l0_0.length : Int)) = false := decide_eq_false c4
   have c4b1 : decide (200 < l0_0.length) = false := decide_eq_false (by omega)
   clear c4
   (first | rw [c4b0] | (simp only [i64_w, i32_w]; rw [c4b0]) | skip)
   by_cases c6 : (l0_1.length : Int) > 40
   · rw [if_pos c6] at H
     have c6b0 : decide (40 < (l0_1.length : Int)) = true := decide_eq_true c6
     have c6b1 : decide (40 < l0_1.length) = true := decide_eq_true (by omega)
     clear c6
     have H' := zK H
     clear H
     obtain ⟨hcz7_0, hcz7_1, hcz7_2, hcz7_3, hcz7_4, hfz7_0, hfz7_1, hfz7_2, hfz7_3, hfz7_4⟩ := zc5 BK318
     go_wp2
     go_meet
     case rel => exact ⟨_, (true), zR, H', ⟨by first | omega | exact Nat.le_refl _⟩, ⟨zM BK318⟩, ⟨zB⟩⟩
   rw [if_neg c6] at H
   have c6b0 : decide (40 < (l0_1.length : Int)) = false := decide_eq_false c6
   have c6b1 : decide (40 < l0_1.length) = false := decide_eq_false (by omega)
   clear c6
   by_cases c8 : (l0_4.length : Int) > 40
   · rw [if_pos c8] at H
     have c8b0 : decide (40 < (l0_4.length : Int)) = true := decide_eq_true c8
     have c8b1 : decide (40 < l0_4.length) = true := decide_eq_true (by omega)
     clear c8
     have H' := zK H
     clear H
     obtain ⟨hcz9_0, hcz9_1, hcz9_2, hcz9_3, hcz9_4, hfz9_0, hfz9_1, hfz9_2, hfz9_3, hfz9_4⟩ := zc5 BK318
     go_wp2
     go_meet
     case rel => exact ⟨_, (true), zR, H', ⟨by first | omega | exact Nat.le_refl _⟩, ⟨zM BK318⟩, ⟨zB⟩⟩
   rw [if_neg c8] at H
   have c8b0 : decide (40 < (l0_4.length : Int)) = false := decide_eq_false c8
   have c8b1 : decide (40 < l0_4.length) = false := decide_eq_false (by omega)
   clear c8
   have H' := zK H
   clear H
   obtain ⟨hcz10_0, hcz10_1, hcz10_2, hcz10_3, hcz10_4, hfz10_0, hfz10_1, hfz10_2, hfz10_3, hfz10_4⟩ := zc5 BK318
   go_wp2
   go_meet
   case rel => exact ⟨_, (decide ((l0_3.length : Int) > 400)), zR, H', ⟨by first | omega | exact Nat.le_refl _⟩, ⟨zM BK318⟩, ⟨zB⟩⟩
  case rest =>
   clear HC2
   try clear p2
   try clear c3
   try clear c4
   try clear c4b0
   try clear c4b1
   try clear c6
   try clear c6b0
   try clear c6b1
   try clear c8
   try clear c8b0
   try clear c8b1
   try clear hcz10_0 hcz10_1 hcz10_2 hcz10_3 hcz10_4 hfz10_0 hfz10_1 hfz10_2 hfz10_3 hfz10_4
   try clear hcz5_0 hcz5_1 hcz5_2 hcz5_3 hcz5_4 hfz5_0 hfz5_1 hfz5_2 hfz5_3 hfz5_4
   try clear hcz7_0 hcz7_1 hcz7_2 hcz7_3 hcz7_4 hfz7_0 hfz7_1 hfz7_2 hfz7_3 hfz7_4
   try clear hcz9_0 hcz9_1 hcz9_2 hcz9_3 hcz9_4 hfz9_0 hfz9_1 hfz9_2 hfz9_3 hfz9_4
   obtain ⟨kq, x35_1, rfl, HA, HJ1, BK318, HB⟩ := hcut
   cases kq with
   | zero => exact absurd HA.out (by simp [impl_NestOk.j0])
   | succ kj1 =>
    have H := HA.out
    clear HA
    simp only [impl_NestOk.j0] at H
    by_cases c11 : x35_1 = true
    · subst c11
      have H1 : (some false) = some r := by rw [if_pos rfl] at H; exact H
      clear H
      have H := H1
      clear H1
      obtain rfl := Option.some.inj H
      go_wp2
      go_ret
      exact ⟨zE, zB⟩
    replace c11 := Bool.eq_false_iff.mpr c11
    subst c11
    have H1 : (impl_NestOk.l0 kj1 l0_0 (l0_0.length : Int) 0 l0_0 l0_1 l0_2 l0_3 l0_4) = some r := by rw [if_neg (show ¬ (false = true) by decide)] at H; exact H
    clear H
    have H := H1
    clear H1
    have H' := zK H
    clear H
    obtain ⟨hcz12_0, hcz12_1, hcz12_2, hcz12_3, hcz12_4, hfz12_0, hfz12_1, hfz12_2, hfz12_3, hfz12_4⟩ := zc5 BK318
    go_wp2
    go_loopg [39] kj1 (fun kq v39 w' => ∃ (x39_2 : Int), v39 = .int .i64 x39_2 ∧ Aside0 (impl_NestOk.l0 kq l0_0 (l0_0.length : Int) x39_2 l0_0 l0_1 l0_2 l0_3 l0_4 = some r) ∧ Aside0 (kq ≤ kj1) ∧ Aside0 (w'.heap[gb318]? = some (.cells #[(.slice A0_0 l0_0.length c0_0), (.slice A0_1 l0_1.length c0_1), (.slice A0_2 l0_2.length c0_2), (.slice A0_3 l0_3.length c0_3), (.slice A0_4 l0_4.length c0_4)] 70 (0, 0))) ∧ Aside0 (Below w.heap.size w w'))
    case atStart => exact ⟨(0), zR, H', ⟨Nat.le_refl _⟩, ⟨zM BK318⟩, ⟨zB⟩⟩
    clear H'
    try clear c1
    try clear p2
    try clear c3
    try clear c4
    try clear c4b0
    try clear c4b1
    try clear c6
    try clear c6b0
    try clear c6b1
    try clear c8
    try clear c8b0
    try clear c8b1
    try clear c11
    try clear hcz10_0 hcz10_1 hcz10_2 hcz10_3 hcz10_4 hfz10_0 hfz10_1 hfz10_2 hfz10_3 hfz10_4
    try clear hcz12_0 hcz12_1 hcz12_2 hcz12_3 hcz12_4 hfz12_0 hfz12_1 hfz12_2 hfz12_3 hfz12_4
    try clear hcz5_0 hcz5_1 hcz5_2 hcz5_3 hcz5_4 hfz5_0 hfz5_1 hfz5_2 hfz5_3 hfz5_4
    try clear hcz7_0 hcz7_1 hcz7_2 hcz7_3 hcz7_4 hfz7_0 hfz7_1 hfz7_2 hfz7_3 hfz7_4
    try clear hcz9_0 hcz9_1 hcz9_2 hcz9_3 hcz9_4 hfz9_0 hfz9_1 hfz9_2 hfz9_3 hfz9_4
    try clear p2
    obtain ⟨x39_2, rfl, HA, HK2, BK318, HB⟩ := hrel
    rcases gk with _ | k2
    · exact absurd HA.out (by simp [impl_NestOk.l0])
    have H := HA.out
    clear HA
    simp only [impl_NestOk.l0] at H
    by_cases c13 : x39_2 < (l0_0.length : Int)
    · rw [if_pos c13] at H
      have c13b0 : decide (x39_2 < (l0_0.length : Int)) = true := decide_eq_true c13
      clear c13
      by_cases c14 : 0 ≤ x39_2
      rotate_left
      · rw [if_neg c14] at H
        exact absurd H (by simp)
      rw [if_pos c14] at H
      have c14b0 : decide (0 ≤ x39_2) = true := decide_eq_true c14
      clear c14
      by_cases c15 : x39_2 < (l0_0.length : Int)
      rotate_left
      · rw [if_neg c15] at H
        exact absurd H (by simp)
      rw [if_pos c15] at H
      have c15b0 : decide (x39_2 < (l0_0.length : Int)) = true := decide_eq_true c15
      clear c15
      by_cases c16 : (rd l0_0 x39_2) < 0
      · rw [if_pos c16] at H
        have c16b0 : decide ((rd l0_0 x39_2) < 0) = true := decide_eq_true c16
        clear c16
        obtain rfl := Option.some.inj H
        have p319 : 0 ≤ (x39_2 : Int) := of_decide_eq_true zA
        have q319 : x39_2 < (l0_0.length : Int) := of_decide_eq_true zA
        obtain ⟨ad319, e319, hx319_0⟩ := Kd.at_int HR0_0.out x39_2 p319 q319
        cases e319
        (try replace hx319_0 := zX HB hx319_0)
        replace p319 := eq_true p319
        replace q319 := eq_true q319
        go_wp2
        go_ret
        exact ⟨zE, zB⟩
      rw [if_neg c16] at H
      have c16b0 : decide ((rd l0_0 x39_2) < 0) = false := decide_eq_false c16
      clear c16
      by_cases c17 : (rd l0_0 x39_2) > 4096
      · rw [if_pos c17] at H
        have c17b0 : decide (4096 < (rd l0_0 x39_2)) = true := decide_eq_true c17
        clear c17
        obtain rfl := Option.some.inj H
        have p319 : 0 ≤ (x39_2 : Int) := of_decide_eq_true zA
        have q319 : x39_2 < (l0_0.length : Int) := of_decide_eq_true zA
        obtain ⟨ad319, e319, hx319_0⟩ := Kd.at_int HR0_0.out x39_2 p319 q319
        cases e319
        (try replace hx319_0 := zX HB hx319_0)
        replace p319 := eq_true p319
        replace q319 := eq_true q319
        go_wp2
        go_ret
        exact ⟨zE, zB⟩
      rw [if_neg c17] at H
      have c17b0 : decide (4096 < (rd l0_0 x39_2)) = false := decide_eq_false c17
      clear c17
      have H' := zK H
      clear H
      have p319 : 0 ≤ (x39_2 : Int) := of_decide_eq_true zA
      have q319 : x39_2 < (l0_0.length : Int) := of_decide_eq_true zA
      obtain ⟨ad319, e319, hx319_0⟩ := Kd.at_int HR0_0.out x39_2 p319 q319
      cases e319
      (try replace hx319_0 := zX HB hx319_0)
      replace p319 := eq_true p319
      replace q319 := eq_true q319
      go_wp2
      go_roundg k2
      case measure => have := HJ1.out; have := HK2.out; omega
      case rel => exact ⟨(wrap64 (x39_2 + 1)), zR, H', ⟨by have := HJ1.out; have := HK2.out; omega⟩, ⟨zM BK318⟩, ⟨zB⟩⟩
    rw [if_neg c13] at H
    have c13b0 : decide (x39_2 < (l0_0.length : Int)) = false := decide_eq_false c13
    clear c13
    have H' := zK H
    clear H
    obtain ⟨hcz18_0, hcz18_1, hcz18_2, hcz18_3, hcz18_4, hfz18_0, hfz18_1, hfz18_2, hfz18_3, hfz18_4⟩ := zc5 BK318
    go_wp2
    go_loopg [53] k2 (fun kq v53 w' => ∃ (x53_3 : Int), v53 = .int .i64 x53_3 ∧ Aside0 (impl_NestOk.l1 kq l0_4 (l0_4.length : Int) x53_3 l0_0 l0_1 l0_2 l0_3 l0_4 = some r) ∧ Aside0 (kq ≤ k2) ∧ Aside0 (w'.heap[gb318]? = some (.cells #[(.slice A0_0 l0_0.length c0_0), (.slice A0_1 l0_1.length c0_1), (.slice A0_2 l0_2.length c0_2), (.slice A0_3 l0_3.length c0_3), (.slice A0_4 l0_4.length c0_4)] 70 (0, 0))) ∧ Aside0 (Below w.heap.size w w'))
    case atStart => exact ⟨(0), zR, H', ⟨Nat.le_refl _⟩, ⟨zM BK318⟩, ⟨zB⟩⟩
    clear H'
    try clear c1
    try clear p2
    try clear c3
    try clear p3
    try clear q3
    try clear hx3
    try clear c4
    try clear c4b0
    try clear c4b1
    try clear c6
    try clear c6b0
    try clear c6b1
    try clear p6
    try clear c8
    try clear c8b0
    try clear c8b1
    try clear c11
    try clear c13
    try clear c13b0
    try clear c14
    try clear c14b0
    try clear c15
    try clear c15b0
    try clear c16
    try clear c16b0
    try clear c17
    try clear c17b0
    try clear hcz10_0 hcz10_1 hcz10_2 hcz10_3 hcz10_4 hfz10_0 hfz10_1 hfz10_2 hfz10_3 hfz10_4
    try clear hcz12_0 hcz12_1 hcz12_2 hcz12_3 hcz12_4 hfz12_0 hfz12_1 hfz12_2 hfz12_3 hfz12_4
    try clear hcz18_0 hcz18_1 hcz18_2 hcz18_3 hcz18_4 hfz18_0 hfz18_1 hfz18_2 hfz18_3 hfz18_4
    try clear hcz5_0 hcz5_1 hcz5_2 hcz5_3 hcz5_4 hfz5_0 hfz5_1 hfz5_2 hfz5_3 hfz5_4
    try clear hcz7_0 hcz7_1 hcz7_2 hcz7_3 hcz7_4 hfz7_0 hfz7_1 hfz7_2 hfz7_3 hfz7_4
    try clear hcz9_0 hcz9_1 hcz9_2 hcz9_3 hcz9_4 hfz9_0 hfz9_1 hfz9_2 hfz9_3 hfz9_4
    try clear hx319_0
    try clear p2
    try clear p319
    try clear q319
    obtain ⟨x53_3, rfl, HA, HK3, BK318, HB⟩ := hrel
    rcases gk with _ | k3
    · exact absurd HA.out (by simp [impl_NestOk.l1])
    have H := HA.out
    clear HA
    simp only [impl_NestOk.l1] at H
    by_cases c19 : x53_3 < (l0_4.length : Int)
    · rw [if_pos c19] at H
      have c19b0 : decide (x53_3 < (l0_4.length : Int)) = true := decide_eq_true c19
      clear c19
      by_cases c20 : 0 ≤ x53_3
      rotate_left
      · rw [if_neg c20] at H
        exact absurd H (by simp)
      rw [if_pos c20] at H
      have c20b0 : decide (0 ≤ x53_3) = true := decide_eq_true c20
      clear c20
      by_cases c21 : x53_3 < (l0_4.length : Int)
      rotate_left
      · rw [if_neg c21] at H
        exact absurd H (by simp)
      rw [if_pos c21] at H
      have c21b0 : decide (x53_3 < (l0_4.length : Int)) = true := decide_eq_true c21
      clear c21
      by_cases c22 : (rd l0_4 x53_3) < 0
      · rw [if_pos c22] at H
        have c22b0 : decide ((rd l0_4 x53_3) < 0) = true := decide_eq_true c22
        clear c22
        obtain rfl := Option.some.inj H
        have p320 : 0 ≤ (x53_3 : Int) := of_decide_eq_true zA
        have q320 : x53_3 < (l0_4.length : Int) := of_decide_eq_true zA
        obtain ⟨ad320, e320, hx320_0⟩ := Kd.at_int HR0_4.out x53_3 p320 q320
        cases e320
        (try replace hx320_0 := zX HB hx320_0)
        replace p320 := eq_true p320
        replace q320 := eq_true q320
        go_wp2
        go_ret
        exact ⟨zE, zB⟩
      rw [if_neg c22] at H
      have c22b0 : decide ((rd l0_4 x53_3) < 0) = false := decide_eq_false c22
      clear c22
      by_cases c23 : (rd l0_4 x53_3) ≥ (l0_0.length : Int)
      · rw [if_pos c23] at H
        have c23b0 : decide ((l0_0.length : Int) ≤ (rd l0_4 x53_3)) = true := decide_eq_true c23
        clear c23
        obtain rfl := Option.some.inj H
        have p320 : 0 ≤ (x53_3 : Int) := of_decide_eq_true zA
        have q320 : x53_3 < (l0_4.length : Int) := of_decide_eq_true zA
        obtain ⟨ad320, e320, hx320_0⟩ := Kd.at_int HR0_4.out x53_3 p320 q320
        cases e320
        (try replace hx320_0 := zX HB hx320_0)
        replace p320 := eq_true p320
        replace q320 := eq_true q320
        obtain ⟨hcz24_0, hcz24_1, hcz24_2, hcz24_3, hcz24_4, hfz24_0, hfz24_1, hfz24_2, hfz24_3, hfz24_4⟩ := zc5 BK318
        go_wp2
        go_ret
        exact ⟨zE, zB⟩
      rw [if_neg c23] at H
      have c23b0 : decide ((l0_0.length : Int) ≤ (rd l0_4 x53_3)) = false := decide_eq_false c23
      clear c23
      have H' := zK H
      clear H
      have p320 : 0 ≤ (x53_3 : Int) := of_decide_eq_true zA
      have q320 : x53_3 < (l0_4.length : Int) := of_decide_eq_true zA
      obtain ⟨ad320, e320, hx320_0⟩ := Kd.at_int HR0_4.out x53_3 p320 q320
      cases e320
      (try replace hx320_0 := zX HB hx320_0)
      replace p320 := eq_true p320
      replace q320 := eq_true q320
      obtain ⟨hcz25_0, hcz25_1, hcz25_2, hcz25_3, hcz25_4, hfz25_0, hfz25_1, hfz25_2, hfz25_3, hfz25_4⟩ := zc5 BK318
      go_wp2
      go_roundg k3
      case measure => have := HJ1.out; have := HK2.out; have := HK3.out; omega
      case rel => exact ⟨(wrap64 (x53_3 + 1)), zR, H', ⟨by have := HJ1.out; have := HK2.out; have := HK3.out; omega⟩, ⟨zM BK318⟩, ⟨zB⟩⟩
    rw [if_neg c19] at H
    have c19b0 : decide (x53_3 < (l0_4.length : Int)) = false := decide_eq_false c19
    clear c19
    replace H := Option.bind_eq_some_iff.mp H
    obtain ⟨⟨t321, t324⟩, A260, H⟩ := H
    replace H : (if t324 = true then (impl_NestOk.l2 k3 t321 0 l0_3 (l0_3.length : Int) 0 l0_0 l0_1 l0_2 l0_3 l0_4) else (some false)) = some r := H
    have A26 := zK A260
    clear A260
    by_cases c27 : t324 = true
    rotate_left
    · replace c27 := Bool.eq_false_iff.mpr c27
      subst c27
      have H1 : (some false) = some r := by rw [if_neg (show ¬ (false = true) by decide)] at H; exact H
      clear H
      have H := H1
      clear H1
      obtain rfl := Option.some.inj H
      obtain ⟨hcz52_0, hcz52_1, hcz52_2, hcz52_3, hcz52_4, hfz52_0, hfz52_1, hfz52_2, hfz52_3, hfz52_4⟩ := zc5 BK318
      go_wp2_with (first | ((with_reducible refine gate_callee (f := 92) rfl ?_); refine zF 69 Try.func92 #[.agg #[.slice A0_0 l0_0.length c0_0, .slice A0_1 l0_1.length c0_1, .slice A0_2 l0_2.length c0_2, .slice A0_3 l0_3.length c0_3, .slice A0_4 l0_4.length c0_4]] rfl zL ?_; (with_reducible refine (impl_Nest_given.calls _ _ l0_0 _ _ l0_1 _ _ l0_2 _ _ l0_3 _ _ l0_4 t321 false _ ?side1 ?side2 ?side3 ?side4 ?side5 ?side6 ?side7 ?side8 ?side9 ?side10 A26.out).mono ?_); (case side1 => exact zC (Kd.C_below HR0_0.out HB.out)); (case side2 => exact HC0_0.out); (case side3 => exact zC (Kd.C_below HR0_1.out HB.out)); (case side4 => exact HC0_1.out); (case side5 => exact zC (Kd.C_below HR0_2.out HB.out)); (case side6 => exact HC0_2.out); (case side7 => exact zC (Kd.C_below HR0_3.out HB.out)); (case side8 => exact HC0_3.out); (case side9 => exact zC (Kd.C_below HR0_4.out HB.out)); (case side10 => exact HC0_4.out); rintro e w53 ⟨v322, rfl, ho0, hb⟩; refine ⟨_, rfl, ?_⟩; have n0_ := zK (Kd.R_lower ho0 (zz zB)); have n1_ := zK (zg (zM BK318) hb); have n2_ := zK (zp zB hb); clear BK318; clear HB; have HO323 := n0_; have BK318 := n1_; have HB := n2_; clear n0_ n1_ n2_; (try clear hb); (try clear hb2); (try clear hk); (try clear hi); (try clear ho0)))
      go_ret
      exact ⟨zE, zB⟩
    subst c27
    have H1 : (impl_NestOk.l2 k3 t321 0 l0_3 (l0_3.length : Int) 0 l0_0 l0_1 l0_2 l0_3 l0_4) = some r := by rw [if_pos rfl] at H; exact H
    clear H
    have H := H1
    clear H1
    have H' := zK H
    clear H
    obtain ⟨hcz28_0, hcz28_1, hcz28_2, hcz28_3, hcz28_4, hfz28_0, hfz28_1, hfz28_2, hfz28_3, hfz28_4⟩ := zc5 BK318
    go_wp2_with (first | ((with_reducible refine gate_callee (f := 92) rfl ?_); refine zF 69 Try.func92 #[.agg #[.slice A0_0 l0_0.length c0_0, .slice A0_1 l0_1.length c0_1, .slice A0_2 l0_2.length c0_2, .slice A0_3 l0_3.length c0_3, .slice A0_4 l0_4.length c0_4]] rfl zL ?_; (with_reducible refine (impl_Nest_given.calls _ _ l0_0 _ _ l0_1 _ _ l0_2 _ _ l0_3 _ _ l0_4 t321 true _ ?side1 ?side2 ?side3 ?side4 ?side5 ?side6 ?side7 ?side8 ?side9 ?side10 A26.out).mono ?_); (case side1 => exact zC (Kd.C_below HR0_0.out HB.out)); (case side2 => exact HC0_0.out); (case side3 => exact zC (Kd.C_below HR0_1.out HB.out)); (case side4 => exact HC0_1.out); (case side5 => exact zC (Kd.C_below HR0_2.out HB.out)); (case side6 => exact HC0_2.out); (case side7 => exact zC (Kd.C_below HR0_3.out HB.out)); (case side8 => exact HC0_3.out); (case side9 => exact zC (Kd.C_below HR0_4.out HB.out)); (case side10 => exact HC0_4.out); rintro e w29 ⟨v322, rfl, ho0, hb⟩; refine ⟨_, rfl, ?_⟩; have n0_ := zK (Kd.R_lower ho0 (zz zB)); have n1_ := zK (zg (zM BK318) hb); have n2_ := zK (zp zB hb); clear BK318; clear HB; have HO323 := n0_; have BK318 := n1_; have HB := n2_; clear n0_ n1_ n2_; (try clear hb); (try clear hb2); (try clear hk); (try clear hi); (try clear ho0); obtain ⟨hcz30_0, hcz30_1, hcz30_2, hcz30_3, hcz30_4, hfz30_0, hfz30_1, hfz30_2, hfz30_3, hfz30_4⟩ := zc5 BK318))
    go_loopg [9, 77] k3 (fun kq v9 v77 w' => ∃ (x9_4 : Int) (x77_4 : Int), v9 = .int .i64 x9_4 ∧ v77 = .int .i64 x77_4 ∧ Aside0 (impl_NestOk.l2 kq t321 x9_4 l0_3 (l0_3.length : Int) x77_4 l0_0 l0_1 l0_2 l0_3 l0_4 = some r) ∧ Aside0 (kq ≤ k3) ∧ Aside0 (Kd.R Kd.bool 4 w' w.heap.size (fun _ => True) v322 t321) ∧ Aside0 (w'.heap[gb318]? = some (.cells #[(.slice A0_0 l0_0.length c0_0), (.slice A0_1 l0_1.length c0_1), (.slice A0_2 l0_2.length c0_2), (.slice A0_3 l0_3.length c0_3), (.slice A0_4 l0_4.length c0_4)] 70 (0, 0))) ∧ Aside0 (Below w.heap.size w w'))
    case atStart => exact ⟨(0), (0), zR, zR, H', ⟨Nat.le_refl _⟩, ⟨zkR HO323⟩, ⟨zM BK318⟩, ⟨zB⟩⟩
    clear H'
    try clear c1
    try clear c2
    try clear p2
    try clear c3
    try clear p3
    try clear q3
    try clear hx3
    try clear c4
    try clear c4b0
    try clear c4b1
    try clear c6
    try clear c6b0
    try clear c6b1
    try clear p6
    try clear c8
    try clear c8b0
    try clear c8b1
    try clear c9
    try clear c11
    try clear c13
    try clear c13b0
    try clear c14
    try clear c14b0
    try clear c15
    try clear c15b0
    try clear c16
    try clear c16b0
    try clear c17
    try clear c17b0
    try clear c19
    try clear c19b0
    try clear c20
    try clear c20b0
    try clear c21
    try clear c21b0
    try clear c22
    try clear c22b0
    try clear c23
    try clear c23b0
    try clear c27
    try clear hcz10_0 hcz10_1 hcz10_2 hcz10_3 hcz10_4 hfz10_0 hfz10_1 hfz10_2 hfz10_3 hfz10_4
    try clear hcz12_0 hcz12_1 hcz12_2 hcz12_3 hcz12_4 hfz12_0 hfz12_1 hfz12_2 hfz12_3 hfz12_4
    try clear hcz18_0 hcz18_1 hcz18_2 hcz18_3 hcz18_4 hfz18_0 hfz18_1 hfz18_2 hfz18_3 hfz18_4
    try clear hcz24_0 hcz24_1 hcz24_2 hcz24_3 hcz24_4 hfz24_0 hfz24_1 hfz24_2 hfz24_3 hfz24_4
    try clear hcz25_0 hcz25_1 hcz25_2 hcz25_3 hcz25_4 hfz25_0 hfz25_1 hfz25_2 hfz25_3 hfz25_4
    try clear hcz28_0 hcz28_1 hcz28_2 hcz28_3 hcz28_4 hfz28_0 hfz28_1 hfz28_2 hfz28_3 hfz28_4
    try clear hcz30_0 hcz30_1 hcz30_2 hcz30_3 hcz30_4 hfz30_0 hfz30_1 hfz30_2 hfz30_3 hfz30_4
    try clear hcz5_0 hcz5_1 hcz5_2 hcz5_3 hcz5_4 hfz5_0 hfz5_1 hfz5_2 hfz5_3 hfz5_4
    try clear hcz7_0 hcz7_1 hcz7_2 hcz7_3 hcz7_4 hfz7_0 hfz7_1 hfz7_2 hfz7_3 hfz7_4
    try clear hcz9_0 hcz9_1 hcz9_2 hcz9_3 hcz9_4 hfz9_0 hfz9_1 hfz9_2 hfz9_3 hfz9_4
    try clear hx319_0
    try clear hx320_0
    try clear p2
    try clear p3
    try clear p319
    try clear p320
    try clear p6
    try clear q3
    try clear q319
    try clear q320
    obtain ⟨x9_4, x77_4, rfl, rfl, HA, HK4, HO_7, BK318, HB⟩ := hrel
    rcases gk with _ | k4
    · exact absurd HA.out (by simp [impl_NestOk.l2])
    have H := HA.out
    clear HA
    simp only [impl_NestOk.l2] at H
    by_cases c31 : x77_4 < (l0_3.length : Int)
    rotate_left
    · rw [if_neg c31] at H
      have c31b0 : decide (x77_4 < (l0_3.length : Int)) = false := decide_eq_false c31
      clear c31
      obtain rfl := Option.some.inj H
      go_wp2
      go_ret
      exact ⟨zE, zB⟩
    rw [if_pos c31] at H
    have c31b0 : decide (x77_4 < (l0_3.length : Int)) = true := decide_eq_true c31
    clear c31
    by_cases c32 : 0 ≤ x77_4
    rotate_left
    · rw [if_neg c32] at H
      exact absurd H (by simp)
    rw [if_pos c32] at H
    have c32b0 : decide (0 ≤ x77_4) = true := decide_eq_true c32
    clear c32
    by_cases c33 : x77_4 < (l0_3.length : Int)
    rotate_left
    · rw [if_neg c33] at H
      exact absurd H (by simp)
    rw [if_pos c33] at H
    have c33b0 : decide (x77_4 < (l0_3.length : Int)) = true := decide_eq_true c33
    clear c33
    replace H := Option.bind_eq_some_iff.mp H
    obtain ⟨⟨t327, t328⟩, A340, H⟩ := H
    replace H : (if t328 = true then (impl_NestOk.l2 k4 t321 (wrap64 (x9_4 + t327)) l0_3 (l0_3.length : Int) (wrap64 (x77_4 + 1)) l0_0 l0_1 l0_2 l0_3 l0_4) else (some false)) = some r := H
    have A34 := zK A340
    clear A340
    by_cases c35 : t328 = true
    rotate_left
    · replace c35 := Bool.eq_false_iff.mpr c35
      subst c35
      have H1 : (some false) = some r := by rw [if_neg (show ¬ (false = true) by decide)] at H; exact H
      clear H
      have H := H1
      clear H1
      obtain rfl := Option.some.inj H
      have p325 : 0 ≤ (x77_4 : Int) := of_decide_eq_true zA
      have q325 : x77_4 < (l0_3.length : Int) := of_decide_eq_true zA
      obtain ⟨ad325, A325_0, c325_0, A325_1, c325_1, A325_4, c325_4, A325_6, c325_6, e325, hx325_0, hx325_1, hx325_2, hx325_3, hx325_4, hx325_5, hx325_6, hl325_0, hi325_0, hl325_1, hi325_1, hl325_4, hi325_4, hl325_6, hi325_6⟩ := at_T132 HR0_3.out x77_4 p325 q325
      cases e325
      (try replace hx325_0 := zX HB hx325_0)
      (try replace hx325_1 := zX HB hx325_1)
      (try replace hx325_2 := zX HB hx325_2)
      (try replace hx325_3 := zX HB hx325_3)
      (try replace hx325_4 := zX HB hx325_4)
      (try replace hx325_5 := zX HB hx325_5)
      (try replace hx325_6 := zX HB hx325_6)
      have HR325_0 := zK hi325_0
      have HC325_0 := zK hl325_0
      clear hi325_0 hl325_0
      have HR325_1 := zK hi325_1
      have HC325_1 := zK hl325_1
      clear hi325_1 hl325_1
      have HR325_4 := zK hi325_4
      have HC325_4 := zK hl325_4
      clear hi325_4 hl325_4
      have HR325_6 := zK hi325_6
      have HC325_6 := zK hl325_6
      clear hi325_6 hl325_6
      replace p325 := eq_true p325
      replace q325 := eq_true q325
      go_wp2_with (first | ((with_reducible refine gate_dst (N := 11) rfl ?_); (try (refine gate_guard (by rfl) ?_; dsimp only)); refine zJ 11 #[.slice none 0 0, .slice none 0 0, .int .i64 0, .int .i64 0, .slice none 0 0, .bool false, .slice none 0 0] 132 ?_; intro gb326 hg w44 hbox hb; have n0_ := zK (Kd.R_below (zkR HO_7) hb); have n1_ := zK (zg (zM BK318) hb); have n2_ := zK (zp zB hb); have n3_ := zK (hbox); have n4_ := zK (zI hg zB); have n5_ := zK (zI hg zB); have n6_ := zK (zH hg (zM BK318)); have n7_ := zK (zG hg (zM BK318)); clear HO_7; clear BK318; clear HB; have HO_7 := n0_; have BK318 := n1_; have HB := n2_; have BK326 := n3_; have GW326 := n4_; have GE326 := n5_; have NB318_326 := n6_; have NB326_318 := n7_; clear n0_ n1_ n2_ n3_ n4_ n5_ n6_ n7_; clear hb hbox hg; have hnb45 := NB326_318.out; have hnc45 := NB318_326.out; obtain ⟨hcz46_0, hcz46_1, hcz46_2, hcz46_3, hcz46_4, hcz46_5, hcz46_6, hfz46_0, hfz46_1, hfz46_2, hfz46_3, hfz46_4, hfz46_5, hfz46_6⟩ := zc7 BK326) | ((with_reducible refine gate_store (t := 132) (p := 11) rfl ?_); refine store_event (t := 132) (p := 11) (v := ?vo_w47) (w1 := (((((((w44.setCell ⟨gb326, 0, none⟩ (.slice A325_0 ((rd_T132 l0_3 x77_4).f0).length c325_0)).setCell ⟨gb326, 1, none⟩ (.slice A325_1 ((rd_T132 l0_3 x77_4).f1).length c325_1)).setCell ⟨gb326, 2, none⟩ (.int .i64 ((rd_T132 l0_3 x77_4).f2.f0))).setCell ⟨gb326, 3, none⟩ (.int .i64 ((rd_T132 l0_3 x77_4).f2.f1))).setCell ⟨gb326, 4, none⟩ (.slice A325_4 ((rd_T132 l0_3 x77_4).f2.f2).length c325_4)).setCell ⟨gb326, 5, none⟩ (.bool ((rd_T132 l0_3 x77_4).f3))).setCell ⟨gb326, 6, none⟩ (.slice A325_6 ((rd_T132 l0_3 x77_4).f4).length c325_6))) ?hg ?ho ?hn ?hr ?_; (case ho => rfl); (case hg => rfl); (case hn => rfl); (case hr => first | (go_simp; done) | (go_simp; rfl)); intro w47 hw; have n0_ : Aside0 (Kd.R Kd.bool 4 w47 w.heap.size (fun _ => True) v322 t321) := ⟨(by rw [hw]; exact (by (with_reducible repeat (first | apply Kd.R_alloc | apply Kd.R_drewN | apply Kd.R_drew)); exact Kd.R_mono (Kd.R_far (p := ⟨gb326, 6, none⟩) (Kd.R_far (p := ⟨gb326, 5, none⟩) (Kd.R_far (p := ⟨gb326, 4, none⟩) (Kd.R_far (p := ⟨gb326, 3, none⟩) (Kd.R_far (p := ⟨gb326, 2, none⟩) (Kd.R_far (p := ⟨gb326, 1, none⟩) (Kd.R_far (p := ⟨gb326, 0, none⟩) (Kd.R_types HO_7.out BK326.out (by decide)) (fun _ hk => hk.2) (.slice A325_0 ((rd_T132 l0_3 x77_4).f0).length c325_0)) (fun _ hk => hk.2) (.slice A325_1 ((rd_T132 l0_3 x77_4).f1).length c325_1)) (fun _ hk => hk.2) (.int .i64 ((rd_T132 l0_3 x77_4).f2.f0))) (fun _ hk => hk.2) (.int .i64 ((rd_T132 l0_3 x77_4).f2.f1))) (fun _ hk => hk.2) (.slice A325_4 ((rd_T132 l0_3 x77_4).f2.f2).length c325_4)) (fun _ hk => hk.2) (.bool ((rd_T132 l0_3 x77_4).f3))) (fun _ hk => hk.2) (.slice A325_6 ((rd_T132 l0_3 x77_4).f4).length c325_6)) (fun _ hk => trivial)))⟩; have n1_ : Aside0 (w47.heap[gb318]? = some (.cells #[.slice A0_0 l0_0.length c0_0, .slice A0_1 l0_1.length c0_1, .slice A0_2 l0_2.length c0_2, .slice (some ad325) l0_3.length c0_3, .slice A0_4 l0_4.length c0_4] 70 (0, 0))) := ⟨(by rw [hw]; exact (by (with_reducible repeat (first | refine zn ?_ _ | refine zd ?_ | refine za ?_ _)); refine blk_far ?_ NB318_326.out _; (with_reducible repeat (first | refine zn ?_ _ | refine zd ?_ | refine za ?_ _)); refine blk_far ?_ NB318_326.out _; (with_reducible repeat (first | refine zn ?_ _ | refine zd ?_ | refine za ?_ _)); refine blk_far ?_ NB318_326.out _; (with_reducible repeat (first | refine zn ?_ _ | refine zd ?_ | refine za ?_ _)); refine blk_far ?_ NB318_326.out _; (with_reducible repeat (first | refine zn ?_ _ | refine zd ?_ | refine za ?_ _)); refine blk_far ?_ NB318_326.out _; (with_reducible repeat (first | refine zn ?_ _ | refine zd ?_ | refine za ?_ _)); refine blk_far ?_ NB318_326.out _; (with_reducible repeat (first | refine zn ?_ _ | refine zd ?_ | refine za ?_ _)); refine blk_far ?_ NB318_326.out _; (with_reducible repeat (first | refine zn ?_ _ | refine zd ?_ | refine za ?_ _)); exact BK318.out))⟩; have n2_ : Aside0 (w47.heap[gb326]? = some (.cells #[.slice A325_0 ((rd_T132 l0_3 x77_4).f0).length c325_0, .slice A325_1 ((rd_T132 l0_3 x77_4).f1).length c325_1, .int .i64 ((rd_T132 l0_3 x77_4).f2.f0), .int .i64 ((rd_T132 l0_3 x77_4).f2.f1), .slice A325_4 ((rd_T132 l0_3 x77_4).f2.f2).length c325_4, .bool ((rd_T132 l0_3 x77_4).f3), .slice A325_6 ((rd_T132 l0_3 x77_4).f4).length c325_6] 132 (0, 0))) := ⟨(by rw [hw]; exact (by (with_reducible repeat (first | refine zn ?_ _ | refine zd ?_ | refine za ?_ _)); refine blk_put (cs := #[.slice A325_0 ((rd_T132 l0_3 x77_4).f0).length c325_0, .slice A325_1 ((rd_T132 l0_3 x77_4).f1).length c325_1, .int .i64 ((rd_T132 l0_3 x77_4).f2.f0), .int .i64 ((rd_T132 l0_3 x77_4).f2.f1), .slice A325_4 ((rd_T132 l0_3 x77_4).f2.f2).length c325_4, .bool ((rd_T132 l0_3 x77_4).f3), .slice none 0 0]) ?_ 6 _ rfl; (with_reducible repeat (first | refine zn ?_ _ | refine zd ?_ | refine za ?_ _)); refine blk_put (cs := #[.slice A325_0 ((rd_T132 l0_3 x77_4).f0).length c325_0, .slice A325_1 ((rd_T132 l0_3 x77_4).f1).length c325_1, .int .i64 ((rd_T132 l0_3 x77_4).f2.f0), .int .i64 ((rd_T132 l0_3 x77_4).f2.f1), .slice A325_4 ((rd_T132 l0_3 x77_4).f2.f2).length c325_4, .bool false, .slice none 0 0]) ?_ 5 _ rfl; (with_reducible repeat (first | refine zn ?_ _ | refine zd ?_ | refine za ?_ _)); refine blk_put (cs := #[.slice A325_0 ((rd_T132 l0_3 x77_4).f0).length c325_0, .slice A325_1 ((rd_T132 l0_3 x77_4).f1).length c325_1, .int .i64 ((rd_T132 l0_3 x77_4).f2.f0), .int .i64 ((rd_T132 l0_3 x77_4).f2.f1), .slice none 0 0, .bool false, .slice none 0 0]) ?_ 4 _ rfl; (with_reducible repeat (first | refine zn ?_ _ | refine zd ?_ | refine za ?_ _)); refine blk_put (cs := #[.slice A325_0 ((rd_T132 l0_3 x77_4).f0).length c325_0, .slice A325_1 ((rd_T132 l0_3 x77_4).f1).length c325_1, .int .i64 ((rd_T132 l0_3 x77_4).f2.f0), .int .i64 0, .slice none 0 0, .bool false, .slice none 0 0]) ?_ 3 _ rfl; (with_reducible repeat (first | refine zn ?_ _ | refine zd ?_ | refine za ?_ _)); refine blk_put (cs := #[.slice A325_0 ((rd_T132 l0_3 x77_4).f0).length c325_0, .slice A325_1 ((rd_T132 l0_3 x77_4).f1).length c325_1, .int .i64 0, .int .i64 0, .slice none 0 0, .bool false, .slice none 0 0]) ?_ 2 _ rfl; (with_reducible repeat (first | refine zn ?_ _ | refine zd ?_ | refine za ?_ _)); refine blk_put (cs := #[.slice A325_0 ((rd_T132 l0_3 x77_4).f0).length c325_0, .slice none 0 0, .int .i64 0, .int .i64 0, .slice none 0 0, .bool false, .slice none 0 0]) ?_ 1 _ rfl; (with_reducible repeat (first | refine zn ?_ _ | refine zd ?_ | refine za ?_ _)); refine blk_put (cs := #[.slice none 0 0, .slice none 0 0, .int .i64 0, .int .i64 0, .slice none 0 0, .bool false, .slice none 0 0]) ?_ 0 _ rfl; (with_reducible repeat (first | refine zn ?_ _ | refine zd ?_ | refine za ?_ _)); exact BK326.out))⟩; have n3_ : Aside0 (Below w.heap.size w w47) := ⟨(by rw [hw]; exact zB)⟩; clear hw; clear HO_7; clear BK318; clear BK326; clear HB; have HO_7 := n0_; have BK318 := n1_; have BK326 := n2_; have HB := n3_; clear n0_ n1_ n2_ n3_; obtain ⟨hcz48_0, hcz48_1, hcz48_2, hcz48_3, hcz48_4, hfz48_0, hfz48_1, hfz48_2, hfz48_3, hfz48_4⟩ := zc5 BK318; have hcz49_0 : w47.cell? ⟨gb326, 0, none⟩ = some (.slice A325_0 ((rd_T132 l0_3 x77_4).f0).length c325_0) := zy BK326 0; have hcz49_1 : w47.cell? ⟨gb326, 1, none⟩ = some (.slice A325_1 ((rd_T132 l0_3 x77_4).f1).length c325_1) := zy BK326 1; have hcz49_2 : w47.cell? ⟨gb326, 2, none⟩ = some (.int .i64 ((rd_T132 l0_3 x77_4).f2.f0)) := zy BK326 2; have hcz49_3 : w47.cell? ⟨gb326, 3, none⟩ = some (.int .i64 ((rd_T132 l0_3 x77_4).f2.f1)) := zy BK326 3; have hcz49_4 : w47.cell? ⟨gb326, 4, none⟩ = some (.slice A325_4 ((rd_T132 l0_3 x77_4).f2.f2).length c325_4) := zy BK326 4; have hcz49_5 : w47.cell? ⟨gb326, 5, none⟩ = some (.bool ((rd_T132 l0_3 x77_4).f3)) := zy BK326 5; have hcz49_6 : w47.cell? ⟨gb326, 6, none⟩ = some (.slice A325_6 ((rd_T132 l0_3 x77_4).f4).length c325_6) := zy BK326 6; have hfz49_0 := zf BK326.out 0; have hfz49_1 := zf BK326.out 1; have hfz49_2 := zf BK326.out 2; have hfz49_3 := zf BK326.out 3; have hfz49_4 := zf BK326.out 4; have hfz49_5 := zf BK326.out 5; have hfz49_6 := zf BK326.out 6; obtain ⟨Ao50, co50, eo50⟩ := Kd.R_slice HO_7.out; subst eo50) | ((with_reducible refine gate_callee (f := 93) rfl ?_); refine zF 85 Try.func93 #[.agg #[.slice A0_0 l0_0.length c0_0, .slice A0_1 l0_1.length c0_1, .slice A0_2 l0_2.length c0_2, .slice (some ad325) l0_3.length c0_3, .slice A0_4 l0_4.length c0_4], .agg #[.slice A325_0 ((rd_T132 l0_3 x77_4).f0).length c325_0, .slice A325_1 ((rd_T132 l0_3 x77_4).f1).length c325_1, .int .i64 ((rd_T132 l0_3 x77_4).f2.f0), .int .i64 ((rd_T132 l0_3 x77_4).f2.f1), .slice A325_4 ((rd_T132 l0_3 x77_4).f2.f2).length c325_4, .bool ((rd_T132 l0_3 x77_4).f3), .slice A325_6 ((rd_T132 l0_3 x77_4).f4).length c325_6], .slice Ao50 t321.length co50] rfl zL ?_; (with_reducible refine (impl_Nest_kernelOk.calls k4 _ _ l0_0 _ _ l0_1 _ _ l0_2 _ _ l0_3 _ _ l0_4 _ _ ((rd_T132 l0_3 x77_4).f0) (fun k_ => k_ < w.heap.size) _ _ ((rd_T132 l0_3 x77_4).f1) ((rd_T132 l0_3 x77_4).f2.f0) ((rd_T132 l0_3 x77_4).f2.f1) (fun k_ => k_ < w.heap.size) _ _ ((rd_T132 l0_3 x77_4).f2.f2) ((rd_T132 l0_3 x77_4).f3) _ _ ((rd_T132 l0_3 x77_4).f4) _ _ t321 t327 false _ ?side1 ?side2 ?side3 ?side4 ?side5 ?side6 ?side7 ?side8 ?side9 ?side10 ?side11 ?side12 ?side13 ?side14 ?side15 ?side16 ?side17 ?side18 A34.out).mono ?_); (case side1 => exact zC (Kd.C_below HR0_0.out HB.out)); (case side2 => exact HC0_0.out); (case side3 => exact zC (Kd.C_below HR0_1.out HB.out)); (case side4 => exact HC0_1.out); (case side5 => exact zC (Kd.C_below HR0_2.out HB.out)); (case side6 => exact HC0_2.out); (case side7 => exact zC (Kd.C_below HR0_3.out HB.out)); (case side8 => exact HC0_3.out); (case side9 => exact zC (Kd.C_below HR0_4.out HB.out)); (case side10 => exact HC0_4.out); (case side11 => exact zC (Kd.C_below HR325_0.out HB.out)); (case side12 => exact HC325_0.out); (case side13 => exact Kd.V_mk HC325_1.out (Kd.F_below (Kd.C_F k129_heap HR325_1.out) zB)); (case side14 => exact Kd.V_mk HC325_4.out (Kd.F_below (Kd.C_F (Kd.heap_int .i64) HR325_4.out) zB)); (case side15 => exact zC (Kd.C_below HR325_6.out HB.out)); (case side16 => exact HC325_6.out); (case side17 => exact zC (Kd.R_reads' HO_7.out).2.2); (case side18 => exact (Kd.R_reads' HO_7.out).2.1); rintro e w51 ⟨rfl, hb⟩; refine ⟨_, rfl, ?_⟩; have n0_ := zK (Kd.R_below (zkR HO_7) hb); have n1_ := zK (zg (zM BK318) hb); have n2_ := zK (zg (zM BK326) hb); have n3_ := zK (zp zB hb); clear HO_7; clear BK318; clear BK326; clear HB; have HO_7 := n0_; have BK318 := n1_; have BK326 := n2_; have HB := n3_; clear n0_ n1_ n2_ n3_; (try clear hb); (try clear hb2); (try clear hk); (try clear hi)))
      go_ret
      exact ⟨zE, zB⟩
    subst c35
    have H1 : (impl_NestOk.l2 k4 t321 (wrap64 (x9_4 + t327)) l0_3 (l0_3.length : Int) (wrap64 (x77_4 + 1)) l0_0 l0_1 l0_2 l0_3 l0_4) = some r := by rw [if_pos rfl] at H; exact H
    clear H
    have H := H1
    clear H1
    have H' := zK H
    clear H
    have p325 : 0 ≤ (x77_4 : Int) := of_decide_eq_true zA
    have q325 : x77_4 < (l0_3.length : Int) := of_decide_eq_true zA
    obtain ⟨ad325, A325_0, c325_0, A325_1, c325_1, A325_4, c325_4, A325_6, c325_6, e325, hx325_0, hx325_1, hx325_2, hx325_3, hx325_4, hx325_5, hx325_6, hl325_0, hi325_0, hl325_1, hi325_1, hl325_4, hi325_4, hl325_6, hi325_6⟩ := at_T132 HR0_3.out x77_4 p325 q325
    cases e325
    (try replace hx325_0 := zX HB hx325_0)
    (try replace hx325_1 := zX HB hx325_1)
    (try replace hx325_2 := zX HB hx325_2)
    (try replace hx325_3 := zX HB hx325_3)
    (try replace hx325_4 := zX HB hx325_4)
    (try replace hx325_5 := zX HB hx325_5)
    (try replace hx325_6 := zX HB hx325_6)
    have HR325_0 := zK hi325_0
    have HC325_0 := zK hl325_0
    clear hi325_0 hl325_0
    have HR325_1 := zK hi325_1
    have HC325_1 := zK hl325_1
    clear hi325_1 hl325_1
    have HR325_4 := zK hi325_4
    have HC325_4 := zK hl325_4
    clear hi325_4 hl325_4
    have HR325_6 := zK hi325_6
    have HC325_6 := zK hl325_6
    clear hi325_6 hl325_6
    replace p325 := eq_true p325
    replace q325 := eq_true q325
    go_wp2_with (first | ((with_reducible refine gate_dst (N := 11) rfl ?_); (try (refine gate_guard (by rfl) ?_; dsimp only)); refine zJ 11 #[.slice none 0 0, .slice none 0 0, .int .i64 0, .int .i64 0, .slice none 0 0, .bool false, .slice none 0 0] 132 ?_; intro gb326 hg w36 hbox hb; have n0_ := zK (Kd.R_below (zkR HO_7) hb); have n1_ := zK (zg (zM BK318) hb); have n2_ := zK (zp zB hb); have n3_ := zK (hbox); have n4_ := zK (zI hg zB); have n5_ := zK (zI hg zB); have n6_ := zK (zH hg (zM BK318)); have n7_ := zK (zG hg (zM BK318)); clear HO_7; clear BK318; clear HB; have HO_7 := n0_; have BK318 := n1_; have HB := n2_; have BK326 := n3_; have GW326 := n4_; have GE326 := n5_; have NB318_326 := n6_; have NB326_318 := n7_; clear n0_ n1_ n2_ n3_ n4_ n5_ n6_ n7_; clear hb hbox hg; have hnb37 := NB326_318.out; have hnc37 := NB318_326.out; obtain ⟨hcz38_0, hcz38_1, hcz38_2, hcz38_3, hcz38_4, hcz38_5, hcz38_6, hfz38_0, hfz38_1, hfz38_2, hfz38_3, hfz38_4, hfz38_5, hfz38_6⟩ := zc7 BK326) | ((with_reducible refine gate_store (t := 132) (p := 11) rfl ?_); refine store_event (t := 132) (p := 11) (v := ?vo_w39) (w1 := (((((((w36.setCell ⟨gb326, 0, none⟩ (.slice A325_0 ((rd_T132 l0_3 x77_4).f0).length c325_0)).setCell ⟨gb326, 1, none⟩ (.slice A325_1 ((rd_T132 l0_3 x77_4).f1).length c325_1)).setCell ⟨gb326, 2, none⟩ (.int .i64 ((rd_T132 l0_3 x77_4).f2.f0))).setCell ⟨gb326, 3, none⟩ (.int .i64 ((rd_T132 l0_3 x77_4).f2.f1))).setCell ⟨gb326, 4, none⟩ (.slice A325_4 ((rd_T132 l0_3 x77_4).f2.f2).length c325_4)).setCell ⟨gb326, 5, none⟩ (.bool ((rd_T132 l0_3 x77_4).f3))).setCell ⟨gb326, 6, none⟩ (.slice A325_6 ((rd_T132 l0_3 x77_4).f4).length c325_6))) ?hg ?ho ?hn ?hr ?_; (case ho => rfl); (case hg => rfl); (case hn => rfl); (case hr => first | (go_simp; done) | (go_simp; rfl)); intro w39 hw; have n0_ : Aside0 (Kd.R Kd.bool 4 w39 w.heap.size (fun _ => True) v322 t321) := ⟨(by rw [hw]; exact (by (with_reducible repeat (first | apply Kd.R_alloc | apply Kd.R_drewN | apply Kd.R_drew)); exact Kd.R_mono (Kd.R_far (p := ⟨gb326, 6, none⟩) (Kd.R_far (p := ⟨gb326, 5, none⟩) (Kd.R_far (p := ⟨gb326, 4, none⟩) (Kd.R_far (p := ⟨gb326, 3, none⟩) (Kd.R_far (p := ⟨gb326, 2, none⟩) (Kd.R_far (p := ⟨gb326, 1, none⟩) (Kd.R_far (p := ⟨gb326, 0, none⟩) (Kd.R_types HO_7.out BK326.out (by decide)) (fun _ hk => hk.2) (.slice A325_0 ((rd_T132 l0_3 x77_4).f0).length c325_0)) (fun _ hk => hk.2) (.slice A325_1 ((rd_T132 l0_3 x77_4).f1).length c325_1)) (fun _ hk => hk.2) (.int .i64 ((rd_T132 l0_3 x77_4).f2.f0))) (fun _ hk => hk.2) (.int .i64 ((rd_T132 l0_3 x77_4).f2.f1))) (fun _ hk => hk.2) (.slice A325_4 ((rd_T132 l0_3 x77_4).f2.f2).length c325_4)) (fun _ hk => hk.2) (.bool ((rd_T132 l0_3 x77_4).f3))) (fun _ hk => hk.2) (.slice A325_6 ((rd_T132 l0_3 x77_4).f4).length c325_6)) (fun _ hk => trivial)))⟩; have n1_ : Aside0 (w39.heap[gb318]? = some (.cells #[.slice A0_0 l0_0.length c0_0, .slice A0_1 l0_1.length c0_1, .slice A0_2 l0_2.length c0_2, .slice (some ad325) l0_3.length c0_3, .slice A0_4 l0_4.length c0_4] 70 (0, 0))) := ⟨(by rw [hw]; exact (by (with_reducible repeat (first | refine zn ?_ _ | refine zd ?_ | refine za ?_ _)); refine blk_far ?_ NB318_326.out _; (with_reducible repeat (first | refine zn ?_ _ | refine zd ?_ | refine za ?_ _)); refine blk_far ?_ NB318_326.out _; (with_reducible repeat (first | refine zn ?_ _ | refine zd ?_ | refine za ?_ _)); refine blk_far ?_ NB318_326.out _; (with_reducible repeat (first | refine zn ?_ _ | refine zd ?_ | refine za ?_ _)); refine blk_far ?_ NB318_326.out _; (with_reducible repeat (first | refine zn ?_ _ | refine zd ?_ | refine za ?_ _)); refine blk_far ?_ NB318_326.out _; (with_reducible repeat (first | refine zn ?_ _ | refine zd ?_ | refine za ?_ _)); refine blk_far ?_ NB318_326.out _; (with_reducible repeat (first | refine zn ?_ _ | refine zd ?_ | refine za ?_ _)); refine blk_far ?_ NB318_326.out _; (with_reducible repeat (first | refine zn ?_ _ | refine zd ?_ | refine za ?_ _)); exact BK318.out))⟩; have n2_ : Aside0 (w39.heap[gb326]? = some (.cells #[.slice A325_0 ((rd_T132 l0_3 x77_4).f0).length c325_0, .slice A325_1 ((rd_T132 l0_3 x77_4).f1).length c325_1, .int .i64 ((rd_T132 l0_3 x77_4).f2.f0), .int .i64 ((rd_T132 l0_3 x77_4).f2.f1), .slice A325_4 ((rd_T132 l0_3 x77_4).f2.f2).length c325_4, .bool ((rd_T132 l0_3 x77_4).f3), .slice A325_6 ((rd_T132 l0_3 x77_4).f4).length c325_6] 132 (0, 0))) := ⟨(by rw [hw]; exact (by (with_reducible repeat (first | refine zn ?_ _ | refine zd ?_ | refine za ?_ _)); refine blk_put (cs := #[.slice A325_0 ((rd_T132 l0_3 x77_4).f0).length c325_0, .slice A325_1 ((rd_T132 l0_3 x77_4).f1).length c325_1, .int .i64 ((rd_T132 l0_3 x77_4).f2.f0), .int .i64 ((rd_T132 l0_3 x77_4).f2.f1), .slice A325_4 ((rd_T132 l0_3 x77_4).f2.f2).length c325_4, .bool ((rd_T132 l0_3 x77_4).f3), .slice none 0 0]) ?_ 6 _ rfl; (with_reducible repeat (first | refine zn ?_ _ | refine zd ?_ | refine za ?_ _)); refine blk_put (cs := #[.slice A325_0 ((rd_T132 l0_3 x77_4).f0).length c325_0, .slice A325_1 ((rd_T132 l0_3 x77_4).f1).length c325_1, .int .i64 ((rd_T132 l0_3 x77_4).f2.f0), .int .i64 ((rd_T132 l0_3 x77_4).f2.f1), .slice A325_4 ((rd_T132 l0_3 x77_4).f2.f2).length c325_4, .bool false, .slice none 0 0]) ?_ 5 _ rfl; (with_reducible repeat (first | refine zn ?_ _ | refine zd ?_ | refine za ?_ _)); refine blk_put (cs := #[.slice A325_0 ((rd_T132 l0_3 x77_4).f0).length c325_0, .slice A325_1 ((rd_T132 l0_3 x77_4).f1).length c325_1, .int .i64 ((rd_T132 l0_3 x77_4).f2.f0), .int .i64 ((rd_T132 l0_3 x77_4).f2.f1), .slice none 0 0, .bool false, .slice none 0 0]) ?_ 4 _ rfl; (with_reducible repeat (first | refine zn ?_ _ | refine zd ?_ | refine za ?_ _)); refine blk_put (cs := #[.slice A325_0 ((rd_T132 l0_3 x77_4).f0).length c325_0, .slice A325_1 ((rd_T132 l0_3 x77_4).f1).length c325_1, .int .i64 ((rd_T132 l0_3 x77_4).f2.f0), .int .i64 0, .slice none 0 0, .bool false, .slice none 0 0]) ?_ 3 _ rfl; (with_reducible repeat (first | refine zn ?_ _ | refine zd ?_ | refine za ?_ _)); refine blk_put (cs := #[.slice A325_0 ((rd_T132 l0_3 x77_4).f0).length c325_0, .slice A325_1 ((rd_T132 l0_3 x77_4).f1).length c325_1, .int .i64 0, .int .i64 0, .slice none 0 0, .bool false, .slice none 0 0]) ?_ 2 _ rfl; (with_reducible repeat (first | refine zn ?_ _ | refine zd ?_ | refine za ?_ _)); refine blk_put (cs := #[.slice A325_0 ((rd_T132 l0_3 x77_4).f0).length c325_0, .slice none 0 0, .int .i64 0, .int .i64 0, .slice none 0 0, .bool false, .slice none 0 0]) ?_ 1 _ rfl; (with_reducible repeat (first | refine zn ?_ _ | refine zd ?_ | refine za ?_ _)); refine blk_put (cs := #[.slice none 0 0, .slice none 0 0, .int .i64 0, .int .i64 0, .slice none 0 0, .bool false, .slice none 0 0]) ?_ 0 _ rfl; (with_reducible repeat (first | refine zn ?_ _ | refine zd ?_ | refine za ?_ _)); exact BK326.out))⟩; have n3_ : Aside0 (Below w.heap.size w w39) := ⟨(by rw [hw]; exact zB)⟩; clear hw; clear HO_7; clear BK318; clear BK326; clear HB; have HO_7 := n0_; have BK318 := n1_; have BK326 := n2_; have HB := n3_; clear n0_ n1_ n2_ n3_; obtain ⟨hcz40_0, hcz40_1, hcz40_2, hcz40_3, hcz40_4, hfz40_0, hfz40_1, hfz40_2, hfz40_3, hfz40_4⟩ := zc5 BK318; have hcz41_0 : w39.cell? ⟨gb326, 0, none⟩ = some (.slice A325_0 ((rd_T132 l0_3 x77_4).f0).length c325_0) := zy BK326 0; have hcz41_1 : w39.cell? ⟨gb326, 1, none⟩ = some (.slice A325_1 ((rd_T132 l0_3 x77_4).f1).length c325_1) := zy BK326 1; have hcz41_2 : w39.cell? ⟨gb326, 2, none⟩ = some (.int .i64 ((rd_T132 l0_3 x77_4).f2.f0)) := zy BK326 2; have hcz41_3 : w39.cell? ⟨gb326, 3, none⟩ = some (.int .i64 ((rd_T132 l0_3 x77_4).f2.f1)) := zy BK326 3; have hcz41_4 : w39.cell? ⟨gb326, 4, none⟩ = some (.slice A325_4 ((rd_T132 l0_3 x77_4).f2.f2).length c325_4) := zy BK326 4; have hcz41_5 : w39.cell? ⟨gb326, 5, none⟩ = some (.bool ((rd_T132 l0_3 x77_4).f3)) := zy BK326 5; have hcz41_6 : w39.cell? ⟨gb326, 6, none⟩ = some (.slice A325_6 ((rd_T132 l0_3 x77_4).f4).length c325_6) := zy BK326 6; have hfz41_0 := zf BK326.out 0; have hfz41_1 := zf BK326.out 1; have hfz41_2 := zf BK326.out 2; have hfz41_3 := zf BK326.out 3; have hfz41_4 := zf BK326.out 4; have hfz41_5 := zf BK326.out 5; have hfz41_6 := zf BK326.out 6; obtain ⟨Ao42, co42, eo42⟩ := Kd.R_slice HO_7.out; subst eo42) | ((with_reducible refine gate_callee (f := 93) rfl ?_); refine zF 85 Try.func93 #[.agg #[.slice A0_0 l0_0.length c0_0, .slice A0_1 l0_1.length c0_1, .slice A0_2 l0_2.length c0_2, .slice (some ad325) l0_3.length c0_3, .slice A0_4 l0_4.length c0_4], .agg #[.slice A325_0 ((rd_T132 l0_3 x77_4).f0).length c325_0, .slice A325_1 ((rd_T132 l0_3 x77_4).f1).length c325_1, .int .i64 ((rd_T132 l0_3 x77_4).f2.f0), .int .i64 ((rd_T132 l0_3 x77_4).f2.f1), .slice A325_4 ((rd_T132 l0_3 x77_4).f2.f2).length c325_4, .bool ((rd_T132 l0_3 x77_4).f3), .slice A325_6 ((rd_T132 l0_3 x77_4).f4).length c325_6], .slice Ao42 t321.length co42] rfl zL ?_; (with_reducible refine (impl_Nest_kernelOk.calls k4 _ _ l0_0 _ _ l0_1 _ _ l0_2 _ _ l0_3 _ _ l0_4 _ _ ((rd_T132 l0_3 x77_4).f0) (fun k_ => k_ < w.heap.size) _ _ ((rd_T132 l0_3 x77_4).f1) ((rd_T132 l0_3 x77_4).f2.f0) ((rd_T132 l0_3 x77_4).f2.f1) (fun k_ => k_ < w.heap.size) _ _ ((rd_T132 l0_3 x77_4).f2.f2) ((rd_T132 l0_3 x77_4).f3) _ _ ((rd_T132 l0_3 x77_4).f4) _ _ t321 t327 true _ ?side1 ?side2 ?side3 ?side4 ?side5 ?side6 ?side7 ?side8 ?side9 ?side10 ?side11 ?side12 ?side13 ?side14 ?side15 ?side16 ?side17 ?side18 A34.out).mono ?_); (case side1 => exact zC (Kd.C_below HR0_0.out HB.out)); (case side2 => exact HC0_0.out); (case side3 => exact zC (Kd.C_below HR0_1.out HB.out)); (case side4 => exact HC0_1.out); (case side5 => exact zC (Kd.C_below HR0_2.out HB.out)); (case side6 => exact HC0_2.out); (case side7 => exact zC (Kd.C_below HR0_3.out HB.out)); (case side8 => exact HC0_3.out); (case side9 => exact zC (Kd.C_below HR0_4.out HB.out)); (case side10 => exact HC0_4.out); (case side11 => exact zC (Kd.C_below HR325_0.out HB.out)); (case side12 => exact HC325_0.out); (case side13 => exact Kd.V_mk HC325_1.out (Kd.F_below (Kd.C_F k129_heap HR325_1.out) zB)); (case side14 => exact Kd.V_mk HC325_4.out (Kd.F_below (Kd.C_F (Kd.heap_int .i64) HR325_4.out) zB)); (case side15 => exact zC (Kd.C_below HR325_6.out HB.out)); (case side16 => exact HC325_6.out); (case side17 => exact zC (Kd.R_reads' HO_7.out).2.2); (case side18 => exact (Kd.R_reads' HO_7.out).2.1); rintro e w43 ⟨rfl, hb⟩; refine ⟨_, rfl, ?_⟩; have n0_ := zK (Kd.R_below (zkR HO_7) hb); have n1_ := zK (zg (zM BK318) hb); have n2_ := zK (zg (zM BK326) hb); have n3_ := zK (zp zB hb); clear HO_7; clear BK318; clear BK326; clear HB; have HO_7 := n0_; have BK318 := n1_; have BK326 := n2_; have HB := n3_; clear n0_ n1_ n2_ n3_; (try clear hb); (try clear hb2); (try clear hk); (try clear hi)))
    go_roundg k4
    case measure => have := HJ1.out; have := HK2.out; have := HK3.out; have := HK4.out; omega
    case rel => exact ⟨(wrap64 (x9_4 + t327)), (wrap64 (x77_4 + 1)), zR, zR, H', ⟨by have := HJ1.out; have := HK2.out; have := HK3.out; have := HK4.out; omega⟩, ⟨zkR HO_7⟩, ⟨zM BK318⟩, ⟨zB⟩⟩

end Go.Proofs.Ytkfagiojcjnfkaa.PFnExactNestOk
