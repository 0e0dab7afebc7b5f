-- Printed out of the translation by this session's own turned copy of a printer; Lean checks it.
import Derived.Test.YtkfagiojcjnfkaaPFnExactNestOkx0
import Derived.Test.YtkfagiojcjnfkaaPFnExactNestOkx15
import Derived.Test.YtkfagiojcjnfkaaPFnExactNestOkx16
namespace Go.Proofs.Ytkfagiojcjnfkaa.PFnExactNestOk
open Go.RowKit Go.Proofs.YtkfagiojcjnfkaaW.PrintWords Go.Proofs.YtkfagiojcjnfkaaW.PrintLast Go.Proofs.YtkfagiojcjnfkaaW.PrintMore
attribute [local go_sem] max2_int min2_int max_two min_two max_three min_three max_four min_four   -- for this text's walks alone
set_option linter.unusedVariables false
set_option linter.unusedSimpArgs false

/-! ### laws_eqKernel: function 156 -/
def laws_eqKernel.f (k : Nat) (l0_0 : List Int) (l0_1 : List (S129)) (a0_2 : Int) (a0_3 : Int) (l0_4 : List Int) (a0_5 : Bool) (l0_6 : List (S204)) (l1_0 : List Int) (l1_1 : List (S129)) (a1_2 : Int) (a1_3 : Int) (l1_4 : List Int) (a1_5 : Bool) (l1_6 : List (S204)) : Option (Bool) := (laws_eqIntS.f k l0_0 l1_0).bind fun t350 => (if t350 = true then ((laws_eqAccessS.f k l0_1 l1_1).bind fun t351 => (if t351 = true then ((laws_eqAccess.f k a0_2 a0_3 l0_4 a1_2 a1_3 l1_4).bind fun t352 => (if t352 = true then (if (a0_5 != a1_5) = true then (some false) else ((laws_eqCalcS.f k l0_6 l1_6).bind fun t353 => (if t353 = true then (some true) else (some false)))) else (some false))) else (some false))) else (some false))
theorem laws_eqKernel.mono : ∀ a0 a1 a2 a3 a4 a5 a6 a7 a8 a9 a10 a11 a12 a13 k, LeO (laws_eqKernel.f k a0 a1 a2 a3 a4 a5 a6 a7 a8 a9 a10 a11 a12 a13) (laws_eqKernel.f (k + 1) a0 a1 a2 a3 a4 a5 a6 a7 a8 a9 a10 a11 a12 a13) := by
  intro a0 a1 a2 a3 a4 a5 a6 a7 a8 a9 a10 a11 a12 a13 k
  unfold laws_eqKernel.f
  repeat' first
      | (with_reducible exact laws_eqAccess.mono _ _ _ _ _ _ _)
      | (with_reducible exact laws_eqAccessS.mono _ _ _)
      | (with_reducible exact laws_eqCalcS.mono _ _ _)
      | (with_reducible exact laws_eqIntS.mono _ _ _)
      | (with_reducible exact LeO.refl _)
      | (with_reducible exact LeO.none _)
      | (with_reducible refine LeO.ite ?_ ?_)
      | (with_reducible refine LeO.bind ?_ (fun _ => ?_))
      | exact laws_eqAccess.mono _ _ _ _ _ _ _
      | exact laws_eqAccessS.mono _ _ _
      | exact laws_eqCalcS.mono _ _ _
      | exact laws_eqIntS.mono _ _ _
      | exact LeO.none _
      | refine LeO.ite ?_ ?_
      | refine LeO.bind ?_ (fun _ => ?_)
set_option maxHeartbeats 8000000 in
set_option maxRecDepth 100000 in
theorem laws_eqKernel.calls (k : Nat) (A0_0 : Option Addr) (c0_0 : Nat) (l0_0 : List Int) (A0_1 : Option Addr) (c0_1 : Nat) (l0_1 : List (S129)) (a0_2 : Int) (a0_3 : Int) (A0_4 : Option Addr) (c0_4 : Nat) (l0_4 : List Int) (a0_5 : Bool) (A0_6 : Option Addr) (c0_6 : Nat) (l0_6 : List (S204)) (A1_0 : Option Addr) (c1_0 : Nat) (l1_0 : List Int) (A1_1 : Option Addr) (c1_1 : Nat) (l1_1 : List (S129)) (a1_2 : Int) (a1_3 : Int) (A1_4 : Option Addr) (c1_4 : Nat) (l1_4 : List Int) (a1_5 : Bool) (A1_6 : Option Addr) (c1_6 : Nat) (l1_6 : List (S204)) (r : Bool) (w : World) (hr0_0 : Kd.C (Kd.int .i64) w A0_0 l0_0.length l0_0) (hc0_0 : l0_0.length ≤ c0_0) (hr0_1 : Kd.C k129 w A0_1 l0_1.length l0_1) (hc0_1 : l0_1.length ≤ c0_1) (hr0_4 : Kd.C (Kd.int .i64) w A0_4 l0_4.length l0_4) (hc0_4 : l0_4.length ≤ c0_4) (hr0_6 : Kd.C k204 w A0_6 l0_6.length l0_6) (hc0_6 : l0_6.length ≤ c0_6) (hr1_0 : Kd.C (Kd.int .i64) w A1_0 l1_0.length l1_0) (hc1_0 : l1_0.length ≤ c1_0) (hr1_1 : Kd.C k129 w A1_1 l1_1.length l1_1) (hc1_1 : l1_1.length ≤ c1_1) (hr1_4 : Kd.C (Kd.int .i64) w A1_4 l1_4.length l1_4) (hc1_4 : l1_4.length ≤ c1_4) (hr1_6 : Kd.C k204 w A1_6 l1_6.length l1_6) (hc1_6 : l1_6.length ≤ c1_6) (h : laws_eqKernel.f k l0_0 l0_1 a0_2 a0_3 l0_4 a0_5 l0_6 l1_0 l1_1 a1_2 a1_3 l1_4 a1_5 l1_6 = some r) :
    Calls Try.prog 156 #[.agg #[.slice A0_0 l0_0.length c0_0, .slice A0_1 l0_1.length c0_1, .int .i64 a0_2, .int .i64 a0_3, .slice A0_4 l0_4.length c0_4, .bool a0_5, .slice A0_6 l0_6.length c0_6], .agg #[.slice A1_0 l1_0.length c1_0, .slice A1_1 l1_1.length c1_1, .int .i64 a1_2, .int .i64 a1_3, .slice A1_4 l1_4.length c1_4, .bool a1_5, .slice A1_6 l1_6.length c1_6]] w fun e w' => e = .returned (.bool r) ∧ Below w.heap.size w w' := by
  have hu132 := Try.underlying132
  have hu129 := Try.underlying129
  have HR0_0 := zK hr0_0
  have HC0_0 := zK hc0_0
  clear hr0_0 hc0_0
  have HR0_1 := zK hr0_1
  have HC0_1 := zK hc0_1
  clear hr0_1 hc0_1
  have HR0_4 := zK hr0_4
  have HC0_4 := zK hc0_4
  clear hr0_4 hc0_4
  have HR0_6 := zK hr0_6
  have HC0_6 := zK hc0_6
  clear hr0_6 hc0_6
  have HR1_0 := zK hr1_0
  have HC1_0 := zK hc1_0
  clear hr1_0 hc1_0
  have HR1_1 := zK hr1_1
  have HC1_1 := zK hc1_1
  clear hr1_1 hc1_1
  have HR1_4 := zK hr1_4
  have HC1_4 := zK hc1_4
  clear hr1_4 hc1_4
  have HR1_6 := zK hr1_6
  have HC1_6 := zK hc1_6
  clear hr1_6 hc1_6
  have HB := zK (Below.refl w.heap.size w)
  have H : ((laws_eqIntS.f k l0_0 l1_0).bind fun t350 => (if t350 = true then ((laws_eqAccessS.f k l0_1 l1_1).bind fun t351 => (if t351 = true then ((laws_eqAccess.f k a0_2 a0_3 l0_4 a1_2 a1_3 l1_4).bind fun t352 => (if t352 = true then (if (a0_5 != a1_5) = true then (some false) else ((laws_eqCalcS.f k l0_6 l1_6).bind fun t353 => (if t353 = true then (some true) else (some false)))) else (some false))) else (some false))) else (some false))) = some r := h
  clear h
  replace H := Option.bind_eq_some_iff.mp H
  obtain ⟨t350, A30, H⟩ := H
  replace H : (if t350 = true then ((laws_eqAccessS.f k l0_1 l1_1).bind fun t351 => (if t351 = true then ((laws_eqAccess.f k a0_2 a0_3 l0_4 a1_2 a1_3 l1_4).bind fun t352 => (if t352 = true then (if (a0_5 != a1_5) = true then (some false) else ((laws_eqCalcS.f k l0_6 l1_6).bind fun t353 => (if t353 = true then (some true) else (some false)))) else (some false))) else (some false))) else (some false)) = some r := H
  have A3 := zK A30
  clear A30
  by_cases c4 : t350 = true
  rotate_left
  · replace c4 := Bool.eq_false_iff.mpr c4
    subst c4
    have H1 : (some false) = some r := by rw [if_neg (show ¬ (false = true) by decide)] at H; exact H
    clear H
    have H := H1
    clear H1
    obtain rfl := Option.some.inj H
    go_enter Try.func156, Try.ntmps156
    go_wp2_with (first | ((with_reducible refine gate_dst (N := 2) rfl ?_); refine zJ 2 #[.slice A0_0 l0_0.length c0_0, .slice A0_1 l0_1.length c0_1, .int .i64 a0_2, .int .i64 a0_3, .slice A0_4 l0_4.length c0_4, .bool a0_5, .slice A0_6 l0_6.length c0_6] 132 ?_; intro gb348 hg w62 hbox hb; have n0_ := zK (zp zB hb); have n1_ := zK (hbox); have n2_ := zK (zI hg zB); have n3_ := zK (zI hg zB); clear HB; have HB := n0_; have BK348 := n1_; have GW348 := n2_; have GE348 := n3_; clear n0_ n1_ n2_ n3_; clear hb hbox hg) | ((with_reducible refine gate_dst (N := 3) rfl ?_); refine zJ 3 #[.slice A1_0 l1_0.length c1_0, .slice A1_1 l1_1.length c1_1, .int .i64 a1_2, .int .i64 a1_3, .slice A1_4 l1_4.length c1_4, .bool a1_5, .slice A1_6 l1_6.length c1_6] 132 ?_; intro gb349 hg w63 hbox hb; have n0_ := zK (zg (zM BK348) hb); have n1_ := zK (zp zB hb); have n2_ := zK (hbox); have n3_ := zK (zI hg zB); have n4_ := zK (zI hg zB); have n5_ := zK (zH hg (zM BK348)); have n6_ := zK (zG hg (zM BK348)); clear BK348; clear HB; have BK348 := n0_; have HB := n1_; have BK349 := n2_; have GW349 := n3_; have GE349 := n4_; have NB348_349 := n5_; have NB349_348 := n6_; clear n0_ n1_ n2_ n3_ n4_ n5_ n6_; clear hb hbox hg; have hnb64 := NB348_349.out; have hnc64 := NB349_348.out; obtain ⟨hcz65_0, hcz65_1, hcz65_2, hcz65_3, hcz65_4, hcz65_5, hcz65_6, hfz65_0, hfz65_1, hfz65_2, hfz65_3, hfz65_4, hfz65_5, hfz65_6⟩ := zc7 BK348; obtain ⟨hcz66_0, hcz66_1, hcz66_2, hcz66_3, hcz66_4, hcz66_5, hcz66_6, hfz66_0, hfz66_1, hfz66_2, hfz66_3, hfz66_4, hfz66_5, hfz66_6⟩ := zc7 BK349) | ((with_reducible refine gate_callee (f := 42) rfl ?_); refine zF 9 Try.func42 #[.slice A0_0 l0_0.length c0_0, .slice A1_0 l1_0.length c1_0] rfl zL ?_; (with_reducible refine (laws_eqIntS.calls k _ _ l0_0 _ _ l1_0 false _ ?side1 ?side2 ?side3 ?side4 A3.out).mono ?_); (case side1 => exact zC (Kd.C_below HR0_0.out HB.out)); (case side2 => exact HC0_0.out); (case side3 => exact zC (Kd.C_below HR1_0.out HB.out)); (case side4 => exact HC1_0.out); rintro e w' ⟨rfl, ⟨nd, rfl⟩⟩; refine ⟨_, rfl, ?_⟩))
    go_ret
    exact ⟨zE, zB⟩
  subst c4
  have H1 : ((laws_eqAccessS.f k l0_1 l1_1).bind fun t351 => (if t351 = true then ((laws_eqAccess.f k a0_2 a0_3 l0_4 a1_2 a1_3 l1_4).bind fun t352 => (if t352 = true then (if (a0_5 != a1_5) = true then (some false) else ((laws_eqCalcS.f k l0_6 l1_6).bind fun t353 => (if t353 = true then (some true) else (some false)))) else (some false))) else (some false))) = some r := by rw [if_pos rfl] at H; exact H
  clear H
  have H := H1
  clear H1
  replace H := Option.bind_eq_some_iff.mp H
  obtain ⟨t351, A50, H⟩ := H
  replace H : (if t351 = true then ((laws_eqAccess.f k a0_2 a0_3 l0_4 a1_2 a1_3 l1_4).bind fun t352 => (if t352 = true then (if (a0_5 != a1_5) = true then (some false) else ((laws_eqCalcS.f k l0_6 l1_6).bind fun t353 => (if t353 = true then (some true) else (some false)))) else (some false))) else (some false)) = some r := H
  have A5 := zK A50
  clear A50
  by_cases c6 : t351 = true
  rotate_left
  · replace c6 := Bool.eq_false_iff.mpr c6
    subst c6
    have H1 : (some false) = some r := by rw [if_neg (show ¬ (false = true) by decide)] at H; exact H
    clear H
    have H := H1
    clear H1
    obtain rfl := Option.some.inj H
    go_enter Try.func156, Try.ntmps156
    go_wp2_with (first | ((with_reducible refine gate_dst (N := 2) rfl ?_); refine zJ 2 #[.slice A0_0 l0_0.length c0_0, .slice A0_1 l0_1.length c0_1, .int .i64 a0_2, .int .i64 a0_3, .slice A0_4 l0_4.length c0_4, .bool a0_5, .slice A0_6 l0_6.length c0_6] 132 ?_; intro gb348 hg w56 hbox hb; have n0_ := zK (zp zB hb); have n1_ := zK (hbox); have n2_ := zK (zI hg zB); have n3_ := zK (zI hg zB); clear HB; have HB := n0_; have BK348 := n1_; have GW348 := n2_; have GE348 := n3_; clear n0_ n1_ n2_ n3_; clear hb hbox hg) | ((with_reducible refine gate_dst (N := 3) rfl ?_); refine zJ 3 #[.slice A1_0 l1_0.length c1_0, .slice A1_1 l1_1.length c1_1, .int .i64 a1_2, .int .i64 a1_3, .slice A1_4 l1_4.length c1_4, .bool a1_5, .slice A1_6 l1_6.length c1_6] 132 ?_; intro gb349 hg w57 hbox hb; have n0_ := zK (zg (zM BK348) hb); have n1_ := zK (zp zB hb); have n2_ := zK (hbox); have n3_ := zK (zI hg zB); have n4_ := zK (zI hg zB); have n5_ := zK (zH hg (zM BK348)); have n6_ := zK (zG hg (zM BK348)); clear BK348; clear HB; have BK348 := n0_; have HB := n1_; have BK349 := n2_; have GW349 := n3_; have GE349 := n4_; have NB348_349 := n5_; have NB349_348 := n6_; clear n0_ n1_ n2_ n3_ n4_ n5_ n6_; clear hb hbox hg; have hnb58 := NB348_349.out; have hnc58 := NB349_348.out; obtain ⟨hcz59_0, hcz59_1, hcz59_2, hcz59_3, hcz59_4, hcz59_5, hcz59_6, hfz59_0, hfz59_1, hfz59_2, hfz59_3, hfz59_4, hfz59_5, hfz59_6⟩ := zc7 BK348; obtain ⟨hcz60_0, hcz60_1, hcz60_2, hcz60_3, hcz60_4, hcz60_5, hcz60_6, hfz60_0, hfz60_1, hfz60_2, hfz60_3, hfz60_4, hfz60_5, hfz60_6⟩ := zc7 BK349) | ((with_reducible refine gate_callee (f := 42) rfl ?_); refine zF 9 Try.func42 #[.slice A0_0 l0_0.length c0_0, .slice A1_0 l1_0.length c1_0] rfl zL ?_; (with_reducible refine (laws_eqIntS.calls k _ _ l0_0 _ _ l1_0 true _ ?side1 ?side2 ?side3 ?side4 A3.out).mono ?_); (case side1 => exact zC (Kd.C_below HR0_0.out HB.out)); (case side2 => exact HC0_0.out); (case side3 => exact zC (Kd.C_below HR1_0.out HB.out)); (case side4 => exact HC1_0.out); rintro e w' ⟨rfl, ⟨nd, rfl⟩⟩; refine ⟨_, rfl, ?_⟩) | ((with_reducible refine gate_callee (f := 194) rfl ?_); refine zF 15 Try.func194 #[.slice A0_1 l0_1.length c0_1, .slice A1_1 l1_1.length c1_1] rfl zL ?_; (with_reducible refine (laws_eqAccessS.calls k _ _ l0_1 _ _ l1_1 false _ ?side1 ?side2 ?side3 ?side4 A5.out).mono ?_); (case side1 => exact zC (Kd.C_below HR0_1.out zB)); (case side2 => exact HC0_1.out); (case side3 => exact zC (Kd.C_below HR1_1.out zB)); (case side4 => exact HC1_1.out); rintro e w61 ⟨rfl, hb⟩; refine ⟨_, rfl, ?_⟩; have n0_ := zK (zg (zM BK348) hb); have n1_ := zK (zg (zM BK349) hb); have n2_ := zK (zp zB hb); clear BK348; clear BK349; clear HB; have BK348 := n0_; have BK349 := n1_; have HB := n2_; clear n0_ n1_ n2_; (try clear hb); (try clear hb2); (try clear hk); (try clear hi)))
    go_ret
    exact ⟨zE, zB⟩
  subst c6
  have H1 : ((laws_eqAccess.f k a0_2 a0_3 l0_4 a1_2 a1_3 l1_4).bind fun t352 => (if t352 = true then (if (a0_5 != a1_5) = true then (some false) else ((laws_eqCalcS.f k l0_6 l1_6).bind fun t353 => (if t353 = true then (some true) else (some false)))) else (some false))) = some r := by rw [if_pos rfl] at H; exact H
  clear H
  have H := H1
  clear H1
  replace H := Option.bind_eq_some_iff.mp H
  obtain ⟨t352, A70, H⟩ := H
  replace H : (if t352 = true then (if (a0_5 != a1_5) = true then (some false) else ((laws_eqCalcS.f k l0_6 l1_6).bind fun t353 => (if t353 = true then (some true) else (some false)))) else (some false)) = some r := H
  have A7 := zK A70
  clear A70
  by_cases c8 : t352 = true
  rotate_left
  · replace c8 := Bool.eq_false_iff.mpr c8
    subst c8
    have H1 : (some false) = some r := by rw [if_neg (show ¬ (false = true) by decide)] at H; exact H
    clear H
    have H := H1
    clear H1
    obtain rfl := Option.some.inj H
    go_enter Try.func156, Try.ntmps156
    go_wp2_with (first | ((with_reducible refine gate_dst (N := 2) rfl ?_); refine zJ 2 #[.slice A0_0 l0_0.length c0_0, .slice A0_1 l0_1.length c0_1, .int .i64 a0_2, .int .i64 a0_3, .slice A0_4 l0_4.length c0_4, .bool a0_5, .slice A0_6 l0_6.length c0_6] 132 ?_; intro gb348 hg w47 hbox hb; have n0_ := zK (zp zB hb); have n1_ := zK (hbox); have n2_ := zK (zI hg zB); have n3_ := zK (zI hg zB); clear HB; have HB := n0_; have BK348 := n1_; have GW348 := n2_; have GE348 := n3_; clear n0_ n1_ n2_ n3_; clear hb hbox hg) | ((with_reducible refine gate_dst (N := 3) rfl ?_); refine zJ 3 #[.slice A1_0 l1_0.length c1_0, .slice A1_1 l1_1.length c1_1, .int .i64 a1_2, .int .i64 a1_3, .slice A1_4 l1_4.length c1_4, .bool a1_5, .slice A1_6 l1_6.length c1_6] 132 ?_; intro gb349 hg w48 hbox hb; have n0_ := zK (zg (zM BK348) hb); have n1_ := zK (zp zB hb); have n2_ := zK (hbox); have n3_ := zK (zI hg zB); have n4_ := zK (zI hg zB); have n5_ := zK (zH hg (zM BK348)); have n6_ := zK (zG hg (zM BK348)); clear BK348; clear HB; have BK348 := n0_; have HB := n1_; have BK349 := n2_; have GW349 := n3_; have GE349 := n4_; have NB348_349 := n5_; have NB349_348 := n6_; clear n0_ n1_ n2_ n3_ n4_ n5_ n6_; clear hb hbox hg; have hnb49 := NB348_349.out; have hnc49 := NB349_348.out; obtain ⟨hcz50_0, hcz50_1, hcz50_2, hcz50_3, hcz50_4, hcz50_5, hcz50_6, hfz50_0, hfz50_1, hfz50_2, hfz50_3, hfz50_4, hfz50_5, hfz50_6⟩ := zc7 BK348; obtain ⟨hcz51_0, hcz51_1, hcz51_2, hcz51_3, hcz51_4, hcz51_5, hcz51_6, hfz51_0, hfz51_1, hfz51_2, hfz51_3, hfz51_4, hfz51_5, hfz51_6⟩ := zc7 BK349) | ((with_reducible refine gate_callee (f := 42) rfl ?_); refine zF 9 Try.func42 #[.slice A0_0 l0_0.length c0_0, .slice A1_0 l1_0.length c1_0] rfl zL ?_; (with_reducible refine (laws_eqIntS.calls k _ _ l0_0 _ _ l1_0 true _ ?side1 ?side2 ?side3 ?side4 A3.out).mono ?_); (case side1 => exact zC (Kd.C_below HR0_0.out HB.out)); (case side2 => exact HC0_0.out); (case side3 => exact zC (Kd.C_below HR1_0.out HB.out)); (case side4 => exact HC1_0.out); rintro e w' ⟨rfl, ⟨nd, rfl⟩⟩; refine ⟨_, rfl, ?_⟩) | ((with_reducible refine gate_callee (f := 194) rfl ?_); refine zF 15 Try.func194 #[.slice A0_1 l0_1.length c0_1, .slice A1_1 l1_1.length c1_1] rfl zL ?_; (with_reducible refine (laws_eqAccessS.calls k _ _ l0_1 _ _ l1_1 true _ ?side1 ?side2 ?side3 ?side4 A5.out).mono ?_); (case side1 => exact zC (Kd.C_below HR0_1.out zB)); (case side2 => exact HC0_1.out); (case side3 => exact zC (Kd.C_below HR1_1.out zB)); (case side4 => exact HC1_1.out); rintro e w52 ⟨rfl, hb⟩; refine ⟨_, rfl, ?_⟩; have n0_ := zK (zg (zM BK348) hb); have n1_ := zK (zg (zM BK349) hb); have n2_ := zK (zp zB hb); clear BK348; clear BK349; clear HB; have BK348 := n0_; have BK349 := n1_; have HB := n2_; clear n0_ n1_ n2_; (try clear hb); (try clear hb2); (try clear hk); (try clear hi); obtain ⟨hcz53_0, hcz53_1, hcz53_2, hcz53_3, hcz53_4, hcz53_5, hcz53_6, hfz53_0, hfz53_1, hfz53_2, hfz53_3, hfz53_4, hfz53_5, hfz53_6⟩ := zc7 BK348; obtain ⟨hcz54_0, hcz54_1, hcz54_2, hcz54_3, hcz54_4, hcz54_5, hcz54_6, hfz54_0, hfz54_1, hfz54_2, hfz54_3, hfz54_4, hfz54_5, hfz54_6⟩ := zc7 BK349) | ((with_reducible refine gate_callee (f := 195) rfl ?_); refine zF 21 Try.func195 #[.agg #[.int .i64 a0_2, .int .i64 a0_3, .slice A0_4 l0_4.length c0_4], .agg #[.int .i64 a1_2, .int .i64 a1_3, .slice A1_4 l1_4.length c1_4]] rfl zL ?_; (with_reducible refine (laws_eqAccess.calls k a0_2 a0_3 _ _ l0_4 a1_2 a1_3 _ _ l1_4 false _ ?side1 ?side2 ?side3 ?side4 A7.out).mono ?_); (case side1 => exact zC (Kd.C_below HR0_4.out HB.out)); (case side2 => exact HC0_4.out); (case side3 => exact zC (Kd.C_below HR1_4.out HB.out)); (case side4 => exact HC1_4.out); rintro e w55 ⟨rfl, hb⟩; refine ⟨_, rfl, ?_⟩; have n0_ := zK (zg (zM BK348) hb); have n1_ := zK (zg (zM BK349) hb); have n2_ := zK (zp zB hb); clear BK348; clear BK349; clear HB; have BK348 := n0_; have BK349 := n1_; have HB := n2_; clear n0_ n1_ n2_; (try clear hb); (try clear hb2); (try clear hk); (try clear hi)))
    go_ret
    exact ⟨zE, zB⟩
  subst c8
  have H1 : (if (a0_5 != a1_5) = true then (some false) else ((laws_eqCalcS.f k l0_6 l1_6).bind fun t353 => (if t353 = true then (some true) else (some false)))) = some r := by rw [if_pos rfl] at H; exact H
  clear H
  have H := H1
  clear H1
  by_cases c9 : (a0_5 != a1_5) = true
  · rw [if_pos c9] at H
    have c9b0 : (a0_5 != a1_5) = true := c9
    (try (have c9b1 : decide (a0_5 = a1_5) = false := by simpa using c9))
    (try (have c9b2 : (a0_5 == a1_5) = false := by simpa using c9))
    (try (have c9b3 : ¬ (a0_5 = a1_5) := by simpa using c9))
    clear c9
    obtain rfl := Option.some.inj H
    go_enter Try.func156, Try.ntmps156
    go_wp2_with (first | ((with_reducible refine gate_dst (N := 2) rfl ?_); refine zJ 2 #[.slice A0_0 l0_0.length c0_0, .slice A0_1 l0_1.length c0_1, .int .i64 a0_2, .int .i64 a0_3, .slice A0_4 l0_4.length c0_4, .bool a0_5, .slice A0_6 l0_6.length c0_6] 132 ?_; intro gb348 hg w10 hbox hb; have n0_ := zK (zp zB hb); have n1_ := zK (hbox); have n2_ := zK (zI hg zB); have n3_ := zK (zI hg zB); clear HB; have HB := n0_; have BK348 := n1_; have GW348 := n2_; have GE348 := n3_; clear n0_ n1_ n2_ n3_; clear hb hbox hg) | ((with_reducible refine gate_dst (N := 3) rfl ?_); refine zJ 3 #[.slice A1_0 l1_0.length c1_0, .slice A1_1 l1_1.length c1_1, .int .i64 a1_2, .int .i64 a1_3, .slice A1_4 l1_4.length c1_4, .bool a1_5, .slice A1_6 l1_6.length c1_6] 132 ?_; intro gb349 hg w11 hbox hb; have n0_ := zK (zg (zM BK348) hb); have n1_ := zK (zp zB hb); have n2_ := zK (hbox); have n3_ := zK (zI hg zB); have n4_ := zK (zI hg zB); have n5_ := zK (zH hg (zM BK348)); have n6_ := zK (zG hg (zM BK348)); clear BK348; clear HB; have BK348 := n0_; have HB := n1_; have BK349 := n2_; have GW349 := n3_; have GE349 := n4_; have NB348_349 := n5_; have NB349_348 := n6_; clear n0_ n1_ n2_ n3_ n4_ n5_ n6_; clear hb hbox hg; have hnb12 := NB348_349.out; have hnc12 := NB349_348.out; obtain ⟨hcz13_0, hcz13_1, hcz13_2, hcz13_3, hcz13_4, hcz13_5, hcz13_6, hfz13_0, hfz13_1, hfz13_2, hfz13_3, hfz13_4, hfz13_5, hfz13_6⟩ := zc7 BK348; obtain ⟨hcz14_0, hcz14_1, hcz14_2, hcz14_3, hcz14_4, hcz14_5, hcz14_6, hfz14_0, hfz14_1, hfz14_2, hfz14_3, hfz14_4, hfz14_5, hfz14_6⟩ := zc7 BK349) | ((with_reducible refine gate_callee (f := 42) rfl ?_); refine zF 9 Try.func42 #[.slice A0_0 l0_0.length c0_0, .slice A1_0 l1_0.length c1_0] rfl zL ?_; (with_reducible refine (laws_eqIntS.calls k _ _ l0_0 _ _ l1_0 true _ ?side1 ?side2 ?side3 ?side4 A3.out).mono ?_); (case side1 => exact zC (Kd.C_below HR0_0.out HB.out)); (case side2 => exact HC0_0.out); (case side3 => exact zC (Kd.C_below HR1_0.out HB.out)); (case side4 => exact HC1_0.out); rintro e w' ⟨rfl, ⟨nd, rfl⟩⟩; refine ⟨_, rfl, ?_⟩) | ((with_reducible refine gate_callee (f := 194) rfl ?_); refine zF 15 Try.func194 #[.slice A0_1 l0_1.length c0_1, .slice A1_1 l1_1.length c1_1] rfl zL ?_; (with_reducible refine (laws_eqAccessS.calls k _ _ l0_1 _ _ l1_1 true _ ?side1 ?side2 ?side3 ?side4 A5.out).mono ?_); (case side1 => exact zC (Kd.C_below HR0_1.out zB)); (case side2 => exact HC0_1.out); (case side3 => exact zC (Kd.C_below HR1_1.out zB)); (case side4 => exact HC1_1.out); rintro e w15 ⟨rfl, hb⟩; refine ⟨_, rfl, ?_⟩; have n0_ := zK (zg (zM BK348) hb); have n1_ := zK (zg (zM BK349) hb); have n2_ := zK (zp zB hb); clear BK348; clear BK349; clear HB; have BK348 := n0_; have BK349 := n1_; have HB := n2_; clear n0_ n1_ n2_; (try clear hb); (try clear hb2); (try clear hk); (try clear hi); obtain ⟨hcz16_0, hcz16_1, hcz16_2, hcz16_3, hcz16_4, hcz16_5, hcz16_6, hfz16_0, hfz16_1, hfz16_2, hfz16_3, hfz16_4, hfz16_5, hfz16_6⟩ := zc7 BK348; obtain ⟨hcz17_0, hcz17_1, hcz17_2, hcz17_3, hcz17_4, hcz17_5, hcz17_6, hfz17_0, hfz17_1, hfz17_2, hfz17_3, hfz17_4, hfz17_5, hfz17_6⟩ := zc7 BK349) | ((with_reducible refine gate_callee (f := 195) rfl ?_); refine zF 21 Try.func195 #[.agg #[.int .i64 a0_2, .int .i64 a0_3, .slice A0_4 l0_4.length c0_4], .agg #[.int .i64 a1_2, .int .i64 a1_3, .slice A1_4 l1_4.length c1_4]] rfl zL ?_; (with_reducible refine (laws_eqAccess.calls k a0_2 a0_3 _ _ l0_4 a1_2 a1_3 _ _ l1_4 true _ ?side1 ?side2 ?side3 ?side4 A7.out).mono ?_); (case side1 => exact zC (Kd.C_below HR0_4.out HB.out)); (case side2 => exact HC0_4.out); (case side3 => exact zC (Kd.C_below HR1_4.out HB.out)); (case side4 => exact HC1_4.out); rintro e w18 ⟨rfl, hb⟩; refine ⟨_, rfl, ?_⟩; have n0_ := zK (zg (zM BK348) hb); have n1_ := zK (zg (zM BK349) hb); have n2_ := zK (zp zB hb); clear BK348; clear BK349; clear HB; have BK348 := n0_; have BK349 := n1_; have HB := n2_; clear n0_ n1_ n2_; (try clear hb); (try clear hb2); (try clear hk); (try clear hi); obtain ⟨hcz19_0, hcz19_1, hcz19_2, hcz19_3, hcz19_4, hcz19_5, hcz19_6, hfz19_0, hfz19_1, hfz19_2, hfz19_3, hfz19_4, hfz19_5, hfz19_6⟩ := zc7 BK348; obtain ⟨hcz20_0, hcz20_1, hcz20_2, hcz20_3, hcz20_4, hcz20_5, hcz20_6, hfz20_0, hfz20_1, hfz20_2, hfz20_3, hfz20_4, hfz20_5, hfz20_6⟩ := zc7 BK349))
    go_ret
    exact ⟨zE, zB⟩
  rw [if_neg c9] at H
  have c9b0 : (a0_5 != a1_5) = false := by simpa using c9
  (try (have c9b1 : decide (a0_5 = a1_5) = true := by simpa using c9))
  (try (have c9b2 : (a0_5 == a1_5) = true := by simpa using c9))
  clear c9
  replace H := Option.bind_eq_some_iff.mp H
  obtain ⟨t353, A210, H⟩ := H
  replace H : (if t353 = true then (some true) else (some false)) = some r := H
  have A21 := zK A210
  clear A210
  by_cases c22 : t353 = true
  · subst c22
    have H1 : (some true) = some r := by rw [if_pos rfl] at H; exact H
    clear H
    have H := H1
    clear H1
    obtain rfl := Option.some.inj H
    go_enter Try.func156, Try.ntmps156
    go_wp2_with (first | ((with_reducible refine gate_dst (N := 2) rfl ?_); refine zJ 2 #[.slice A0_0 l0_0.length c0_0, .slice A0_1 l0_1.length c0_1, .int .i64 a0_2, .int .i64 a0_3, .slice A0_4 l0_4.length c0_4, .bool a0_5, .slice A0_6 l0_6.length c0_6] 132 ?_; intro gb348 hg w23 hbox hb; have n0_ := zK (zp zB hb); have n1_ := zK (hbox); have n2_ := zK (zI hg zB); have n3_ := zK (zI hg zB); clear HB; have HB := n0_; have BK348 := n1_; have GW348 := n2_; have GE348 := n3_; clear n0_ n1_ n2_ n3_; clear hb hbox hg) | ((with_reducible refine gate_dst (N := 3) rfl ?_); refine zJ 3 #[.slice A1_0 l1_0.length c1_0, .slice A1_1 l1_1.length c1_1, .int .i64 a1_2, .int .i64 a1_3, .slice A1_4 l1_4.length c1_4, .bool a1_5, .slice A1_6 l1_6.length c1_6] 132 ?_; intro gb349 hg w24 hbox hb; have n0_ := zK (zg (zM BK348) hb); have n1_ := zK (zp zB hb); have n2_ := zK (hbox); have n3_ := zK (zI hg zB); have n4_ := zK (zI hg zB); have n5_ := zK (zH hg (zM BK348)); have n6_ := zK (zG hg (zM BK348)); clear BK348; clear HB; have BK348 := n0_; have HB := n1_; have BK349 := n2_; have GW349 := n3_; have GE349 := n4_; have NB348_349 := n5_; have NB349_348 := n6_; clear n0_ n1_ n2_ n3_ n4_ n5_ n6_; clear hb hbox hg; have hnb25 := NB348_349.out; have hnc25 := NB349_348.out; obtain ⟨hcz26_0, hcz26_1, hcz26_2, hcz26_3, hcz26_4, hcz26_5, hcz26_6, hfz26_0, hfz26_1, hfz26_2, hfz26_3, hfz26_4, hfz26_5, hfz26_6⟩ := zc7 BK348; obtain ⟨hcz27_0, hcz27_1, hcz27_2, hcz27_3, hcz27_4, hcz27_5, hcz27_6, hfz27_0, hfz27_1, hfz27_2, hfz27_3, hfz27_4, hfz27_5, hfz27_6⟩ := zc7 BK349) | ((with_reducible refine gate_callee (f := 42) rfl ?_); refine zF 9 Try.func42 #[.slice A0_0 l0_0.length c0_0, .slice A1_0 l1_0.length c1_0] rfl zL ?_; (with_reducible refine (laws_eqIntS.calls k _ _ l0_0 _ _ l1_0 true _ ?side1 ?side2 ?side3 ?side4 A3.out).mono ?_); (case side1 => exact zC (Kd.C_below HR0_0.out HB.out)); (case side2 => exact HC0_0.out); (case side3 => exact zC (Kd.C_below HR1_0.out HB.out)); (case side4 => exact HC1_0.out); rintro e w' ⟨rfl, ⟨nd, rfl⟩⟩; refine ⟨_, rfl, ?_⟩) | ((with_reducible refine gate_callee (f := 194) rfl ?_); refine zF 15 Try.func194 #[.slice A0_1 l0_1.length c0_1, .slice A1_1 l1_1.length c1_1] rfl zL ?_; (with_reducible refine (laws_eqAccessS.calls k _ _ l0_1 _ _ l1_1 true _ ?side1 ?side2 ?side3 ?side4 A5.out).mono ?_); (case side1 => exact zC (Kd.C_below HR0_1.out zB)); (case side2 => exact HC0_1.out); (case side3 => exact zC (Kd.C_below HR1_1.out zB)); (case side4 => exact HC1_1.out); rintro e w28 ⟨rfl, hb⟩; refine ⟨_, rfl, ?_⟩; have n0_ := zK (zg (zM BK348) hb); have n1_ := zK (zg (zM BK349) hb); have n2_ := zK (zp zB hb); clear BK348; clear BK349; clear HB; have BK348 := n0_; have BK349 := n1_; have HB := n2_; clear n0_ n1_ n2_; (try clear hb); (try clear hb2); (try clear hk); (try clear hi); obtain ⟨hcz29_0, hcz29_1, hcz29_2, hcz29_3, hcz29_4, hcz29_5, hcz29_6, hfz29_0, hfz29_1, hfz29_2, hfz29_3, hfz29_4, hfz29_5, hfz29_6⟩ := zc7 BK348; obtain ⟨hcz30_0, hcz30_1, hcz30_2, hcz30_3, hcz30_4, hcz30_5, hcz30_6, hfz30_0, hfz30_1, hfz30_2, hfz30_3, hfz30_4, hfz30_5, hfz30_6⟩ := zc7 BK349) | ((with_reducible refine gate_callee (f := 195) rfl ?_); refine zF 21 Try.func195 #[.agg #[.int .i64 a0_2, .int .i64 a0_3, .slice A0_4 l0_4.length c0_4], .agg #[.int .i64 a1_2, .int .i64 a1_3, .slice A1_4 l1_4.length c1_4]] rfl zL ?_; (with_reducible refine (laws_eqAccess.calls k a0_2 a0_3 _ _ l0_4 a1_2 a1_3 _ _ l1_4 true _ ?side1 ?side2 ?side3 ?side4 A7.out).mono ?_); (case side1 => exact zC (Kd.C_below HR0_4.out HB.out)); (case side2 => exact HC0_4.out); (case side3 => exact zC (Kd.C_below HR1_4.out HB.out)); (case side4 => exact HC1_4.out); rintro e w31 ⟨rfl, hb⟩; refine ⟨_, rfl, ?_⟩; have n0_ := zK (zg (zM BK348) hb); have n1_ := zK (zg (zM BK349) hb); have n2_ := zK (zp zB hb); clear BK348; clear BK349; clear HB; have BK348 := n0_; have BK349 := n1_; have HB := n2_; clear n0_ n1_ n2_; (try clear hb); (try clear hb2); (try clear hk); (try clear hi); obtain ⟨hcz32_0, hcz32_1, hcz32_2, hcz32_3, hcz32_4, hcz32_5, hcz32_6, hfz32_0, hfz32_1, hfz32_2, hfz32_3, hfz32_4, hfz32_5, hfz32_6⟩ := zc7 BK348; obtain ⟨hcz33_0, hcz33_1, hcz33_2, hcz33_3, hcz33_4, hcz33_5, hcz33_6, hfz33_0, hfz33_1, hfz33_2, hfz33_3, hfz33_4, hfz33_5, hfz33_6⟩ := zc7 BK349) | ((with_reducible refine gate_callee (f := 196) rfl ?_); refine zF 32 Try.func196 #[.slice A0_6 l0_6.length c0_6, .slice A1_6 l1_6.length c1_6] rfl zL ?_; (with_reducible refine (laws_eqCalcS.calls k _ _ l0_6 _ _ l1_6 true _ ?side1 ?side2 ?side3 ?side4 A21.out).mono ?_); (case side1 => exact zC (Kd.C_below HR0_6.out HB.out)); (case side2 => exact HC0_6.out); (case side3 => exact zC (Kd.C_below HR1_6.out HB.out)); (case side4 => exact HC1_6.out); rintro e w34 ⟨rfl, hb⟩; refine ⟨_, rfl, ?_⟩; have n0_ := zK (zg (zM BK348) hb); have n1_ := zK (zg (zM BK349) hb); have n2_ := zK (zp zB hb); clear BK348; clear BK349; clear HB; have BK348 := n0_; have BK349 := n1_; have HB := n2_; clear n0_ n1_ n2_; (try clear hb); (try clear hb2); (try clear hk); (try clear hi)))
    go_ret
    exact ⟨zE, zB⟩
  replace c22 := Bool.eq_false_iff.mpr c22
  subst c22
  have H1 : (some false) = some r := by rw [if_neg (show ¬ (false = true) by decide)] at H; exact H
  clear H
  have H := H1
  clear H1
  obtain rfl := Option.some.inj H
  go_enter Try.func156, Try.ntmps156
  go_wp2_with (first | ((with_reducible refine gate_dst (N := 2) rfl ?_); refine zJ 2 #[.slice A0_0 l0_0.length c0_0, .slice A0_1 l0_1.length c0_1, .int .i64 a0_2, .int .i64 a0_3, .slice A0_4 l0_4.length c0_4, .bool a0_5, .slice A0_6 l0_6.length c0_6] 132 ?_; intro gb348 hg w35 hbox hb; have n0_ := zK (zp zB hb); have n1_ := zK (hbox); have n2_ := zK (zI hg zB); have n3_ := zK (zI hg zB); clear HB; have HB := n0_; have BK348 := n1_; have GW348 := n2_; have GE348 := n3_; clear n0_ n1_ n2_ n3_; clear hb hbox hg) | ((with_reducible refine gate_dst (N := 3) rfl ?_); refine zJ 3 #[.slice A1_0 l1_0.length c1_0, .slice A1_1 l1_1.length c1_1, .int .i64 a1_2, .int .i64 a1_3, .slice A1_4 l1_4.length c1_4, .bool a1_5, .slice A1_6 l1_6.length c1_6] 132 ?_; intro gb349 hg w36 hbox hb; have n0_ := zK (zg (zM BK348) hb); have n1_ := zK (zp zB hb); have n2_ := zK (hbox); have n3_ := zK (zI hg zB); have n4_ := zK (zI hg zB); have n5_ := zK (zH hg (zM BK348)); have n6_ := zK (zG hg (zM BK348)); clear BK348; clear HB; have BK348 := n0_; have HB := n1_; have BK349 := n2_; have GW349 := n3_; have GE349 := n4_; have NB348_349 := n5_; have NB349_348 := n6_; clear n0_ n1_ n2_ n3_ n4_ n5_ n6_; clear hb hbox hg; have hnb37 := NB348_349.out; have hnc37 := NB349_348.out; obtain ⟨hcz38_0, hcz38_1, hcz38_2, hcz38_3, hcz38_4, hcz38_5, hcz38_6, hfz38_0, hfz38_1, hfz38_2, hfz38_3, hfz38_4, hfz38_5, hfz38_6⟩ := zc7 BK348; obtain ⟨hcz39_0, hcz39_1, hcz39_2, hcz39_3, hcz39_4, hcz39_5, hcz39_6, hfz39_0, hfz39_1, hfz39_2, hfz39_3, hfz39_4, hfz39_5, hfz39_6⟩ := zc7 BK349) | ((with_reducible refine gate_callee (f := 42) rfl ?_); refine zF 9 Try.func42 #[.slice A0_0 l0_0.length c0_0, .slice A1_0 l1_0.length c1_0] rfl zL ?_; (with_reducible refine (laws_eqIntS.calls k _ _ l0_0 _ _ l1_0 true _ ?side1 ?side2 ?side3 ?side4 A3.out).mono ?_); (case side1 => exact zC (Kd.C_below HR0_0.out HB.out)); (case side2 => exact HC0_0.out); (case side3 => exact zC (Kd.C_below HR1_0.out HB.out)); (case side4 => exact HC1_0.out); rintro e w' ⟨rfl, ⟨nd, rfl⟩⟩; refine ⟨_, rfl, ?_⟩) | ((with_reducible refine gate_callee (f := 194) rfl ?_); refine zF 15 Try.func194 #[.slice A0_1 l0_1.length c0_1, .slice A1_1 l1_1.length c1_1] rfl zL ?_; (with_reducible refine (laws_eqAccessS.calls k _ _ l0_1 _ _ l1_1 true _ ?side1 ?side2 ?side3 ?side4 A5.out).mono ?_); (case side1 => exact zC (Kd.C_below HR0_1.out zB)); (case side2 => exact HC0_1.out); (case side3 => exact zC (Kd.C_below HR1_1.out zB)); (case side4 => exact HC1_1.out); rintro e w40 ⟨rfl, hb⟩; refine ⟨_, rfl, ?_⟩; have n0_ := zK (zg (zM BK348) hb); have n1_ := zK (zg (zM BK349) hb); have n2_ := zK (zp zB hb); clear BK348; clear BK349; clear HB; have BK348 := n0_; have BK349 := n1_; have HB := n2_; clear n0_ n1_ n2_; (try clear hb); (try clear hb2); (try clear hk); (try clear hi); obtain ⟨hcz41_0, hcz41_1, hcz41_2, hcz41_3, hcz41_4, hcz41_5, hcz41_6, hfz41_0, hfz41_1, hfz41_2, hfz41_3, hfz41_4, hfz41_5, hfz41_6⟩ := zc7 BK348; obtain ⟨hcz42_0, hcz42_1, hcz42_2, hcz42_3, hcz42_4, hcz42_5, hcz42_6, hfz42_0, hfz42_1, hfz42_2, hfz42_3, hfz42_4, hfz42_5, hfz42_6⟩ := zc7 BK349) | ((with_reducible refine gate_callee (f := 195) rfl ?_); refine zF 21 Try.func195 #[.agg #[.int .i64 a0_2, .int .i64 a0_3, .slice A0_4 l0_4.length c0_4], .agg #[.int .i64 a1_2, .int .i64 a1_3, .slice A1_4 l1_4.length c1_4]] rfl zL ?_; (with_reducible refine (laws_eqAccess.calls k a0_2 a0_3 _ _ l0_4 a1_2 a1_3 _ _ l1_4 true _ ?side1 ?side2 ?side3 ?side4 A7.out).mono ?_); (case side1 => exact zC (Kd.C_below HR0_4.out HB.out)); (case side2 => exact HC0_4.out); (case side3 => exact zC (Kd.C_below HR1_4.out HB.out)); (case side4 => exact HC1_4.out); rintro e w43 ⟨rfl, hb⟩; refine ⟨_, rfl, ?_⟩; have n0_ := zK (zg (zM BK348) hb); have n1_ := zK (zg (zM BK349) hb); have n2_ := zK (zp zB hb); clear BK348; clear BK349; clear HB; have BK348 := n0_; have BK349 := n1_; have HB := n2_; clear n0_ n1_ n2_; (try clear hb); (try clear hb2); (try clear hk); (try clear hi); obtain ⟨hcz44_0, hcz44_1, hcz44_2, hcz44_3, hcz44_4, hcz44_5, hcz44_6, hfz44_0, hfz44_1, hfz44_2, hfz44_3, hfz44_4, hfz44_5, hfz44_6⟩ := zc7 BK348; obtain ⟨hcz45_0, hcz45_1, hcz45_2, hcz45_3, hcz45_4, hcz45_5, hcz45_6, hfz45_0, hfz45_1, hfz45_2, hfz45_3, hfz45_4, hfz45_5, hfz45_6⟩ := zc7 BK349) | ((with_reducible refine gate_callee (f := 196) rfl ?_); refine zF 32 Try.func196 #[.slice A0_6 l0_6.length c0_6, .slice A1_6 l1_6.length c1_6] rfl zL ?_; (with_reducible refine (laws_eqCalcS.calls k _ _ l0_6 _ _ l1_6 false _ ?side1 ?side2 ?side3 ?side4 A21.out).mono ?_); (case side1 => exact zC (Kd.C_below HR0_6.out HB.out)); (case side2 => exact HC0_6.out); (case side3 => exact zC (Kd.C_below HR1_6.out HB.out)); (case side4 => exact HC1_6.out); rintro e w46 ⟨rfl, hb⟩; refine ⟨_, rfl, ?_⟩; have n0_ := zK (zg (zM BK348) hb); have n1_ := zK (zg (zM BK349) hb); have n2_ := zK (zp zB hb); clear BK348; clear BK349; clear HB; have BK348 := n0_; have BK349 := n1_; have HB := n2_; clear n0_ n1_ n2_; (try clear hb); (try clear hb2); (try clear hk); (try clear hi)))
  go_ret
  exact ⟨zE, zB⟩

/-! ### laws_eqKernelS: function 95 -/
def laws_eqKernelS.l0 : Nat → List (S132) → List (S132) → Int → Option (Bool)
  | 0, _, _, _ => none
  | k + 1, x0, x1, x5 => if x5 < (x0.length : Int) then (if 0 ≤ x5 then (if x5 < (x1.length : Int) then ((laws_eqKernel.f k ((rd_T132 x0 x5).f0) ((rd_T132 x0 x5).f1) ((rd_T132 x0 x5).f2.f0) ((rd_T132 x0 x5).f2.f1) ((rd_T132 x0 x5).f2.f2) ((rd_T132 x0 x5).f3) ((rd_T132 x0 x5).f4) ((rd_T132 x1 x5).f0) ((rd_T132 x1 x5).f1) ((rd_T132 x1 x5).f2.f0) ((rd_T132 x1 x5).f2.f1) ((rd_T132 x1 x5).f2.f2) ((rd_T132 x1 x5).f3) ((rd_T132 x1 x5).f4)).bind fun t356 => (if t356 = true then (laws_eqKernelS.l0 k x0 x1 (wrap64 (x5 + 1))) else (some false))) else (none)) else (none)) else (some true)
def laws_eqKernelS.f (k : Nat) (l0 : List (S132)) (l1 : List (S132)) : Option (Bool) := if (l0.length : Int) = (l1.length : Int) then (laws_eqKernelS.l0 k l0 l1 0) else (some false)
theorem laws_eqKernelS.mono_l : ∀ k, (∀ y0 y1 y2, LeO (laws_eqKernelS.l0 k y0 y1 y2) (laws_eqKernelS.l0 (k + 1) y0 y1 y2))
  | 0 => fun _ _ _ r h => by simp [laws_eqKernelS.l0] at h
  | k + 1 => by
    have ih0 := laws_eqKernelS.mono_l k
    · intro y0 y1 y2
      unfold laws_eqKernelS.l0
      repeat' first
      | (with_reducible exact ih0 _ _ _)
      | (with_reducible exact laws_eqKernel.mono _ _ _ _ _ _ _ _ _ _ _ _ _ _ _)
      | (with_reducible exact LeO.refl _)
      | (with_reducible exact LeO.none _)
      | (with_reducible refine LeO.ite ?_ ?_)
      | (with_reducible refine LeO.bind ?_ (fun _ => ?_))
      | exact ih0 _ _ _
      | exact laws_eqKernel.mono _ _ _ _ _ _ _ _ _ _ _ _ _ _ _
      | exact LeO.none _
      | refine LeO.ite ?_ ?_
      | refine LeO.bind ?_ (fun _ => ?_)
theorem laws_eqKernelS.mono : ∀ a0 a1 k, LeO (laws_eqKernelS.f k a0 a1) (laws_eqKernelS.f (k + 1) a0 a1) := by
  intro a0 a1 k
  have ih0 := laws_eqKernelS.mono_l k
  unfold laws_eqKernelS.f
  repeat' first
      | (with_reducible exact ih0 _ _ _)
      | (with_reducible exact laws_eqKernel.mono _ _ _ _ _ _ _ _ _ _ _ _ _ _ _)
      | (with_reducible exact LeO.refl _)
      | (with_reducible exact LeO.none _)
      | (with_reducible refine LeO.ite ?_ ?_)
      | (with_reducible refine LeO.bind ?_ (fun _ => ?_))
      | exact ih0 _ _ _
      | exact laws_eqKernel.mono _ _ _ _ _ _ _ _ _ _ _ _ _ _ _
      | exact LeO.none _
      | refine LeO.ite ?_ ?_
      | refine LeO.bind ?_ (fun _ => ?_)
def laws_eqKernelS.T6 : Bool × List (List Nat × List Nat) := (true, [([], []), ([], []), ([0, 1], [0, 1]), ([2], [2]), ([], []), ([], []), ([4, 5], [4, 5]), ([6], [6]), ([3, 7], [3, 7]), ([8], [8])])
def laws_eqKernelS.B6 : List Nat := [0, 0, 3, 7, 0, 0, 48, 112, 255, 511]
theorem laws_eqKernelS.tab6 : rtab .any (opsOf Try.f95 6) = laws_eqKernelS.T6 := by kernel_rfl
theorem laws_eqKernelS.bits6 : waitsOk laws_eqKernelS.T6.2 laws_eqKernelS.B6 = true := by kernel_rfl
set_option maxHeartbeats 8000000 in
set_option maxRecDepth 100000 in
theorem laws_eqKernelS.calls (k : Nat) (A0 : Option Addr) (c0 : Nat) (l0 : List (S132)) (A1 : Option Addr) (c1 : Nat) (l1 : List (S132)) (r : Bool) (w : World) (hr0 : Kd.C k132 w A0 l0.length l0) (hc0 : l0.length ≤ c0) (hr1 : Kd.C k132 w A1 l1.length l1) (hc1 : l1.length ≤ c1) (h : laws_eqKernelS.f k l0 l1 = some r) :
    Calls Try.prog 95 #[.slice A0 l0.length c0, .slice A1 l1.length c1] w fun e w' => e = .returned (.bool r) ∧ Below w.heap.size w w' := by
  have hu132 := Try.underlying132
  have HR0 := zK hr0
  have HC0 := zK hc0
  clear hr0 hc0
  have HR1 := zK hr1
  have HC1 := zK hc1
  clear hr1 hc1
  have HB := zK (Below.refl w.heap.size w)
  have H : (if (l0.length : Int) = (l1.length : Int) then (laws_eqKernelS.l0 k l0 l1 0) else (some false)) = some r := h
  clear h
  by_cases c3 : (l0.length : Int) = (l1.length : Int)
  rotate_left
  · rw [if_neg c3] at H
    have c3b0 : ((l0.length : Int) == (l1.length : Int)) = false := beq_eq_false_iff_ne.mpr c3
    have c3b1 : ((l0.length : Int) != (l1.length : Int)) = true := bne_iff_ne.mpr c3
    have c3b2 : (l0.length == l1.length) = false := by first | simpa using c3 | (simp at c3 ⊢; omega)
    obtain rfl := Option.some.inj H
    go_enter Try.func95, Try.ntmps95
    go_wp2
    go_ret
    exact ⟨zE, zB⟩
  rw [if_pos c3] at H
  have c3b0 : ((l0.length : Int) == (l1.length : Int)) = true := beq_iff_eq.mpr c3
  have c3b1 : ((l0.length : Int) != (l1.length : Int)) = false := bne_eq_false_iff_eq.mpr c3
  have c3b2 : (l0.length == l1.length) = true := by first | simpa using c3 | (simp at c3 ⊢; omega)
  clear c3
  have H' := zK H
  clear H
  go_enter Try.func95, Try.ntmps95
  go_wp2
  go_loopg [5] k (fun kq v5 w' => ∃ (x5_1 : Int), v5 = .int .i64 x5_1 ∧ Aside0 (laws_eqKernelS.l0 kq l0 l1 x5_1 = some r) ∧ Aside0 (kq ≤ k) ∧ Aside0 (Below w.heap.size w w'))
  case atStart => exact ⟨(0), zR, H', ⟨Nat.le_refl _⟩, ⟨zB⟩⟩
  clear H'
  try clear c1
  try clear p2
  try clear c3
  try clear c3b0
  try clear c3b1
  try clear c3b2
  obtain ⟨x5_1, rfl, HA, HK1, HB⟩ := hrel
  rcases gk with _ | k1
  · exact absurd HA.out (by simp [laws_eqKernelS.l0])
  have H := HA.out
  clear HA
  simp only [laws_eqKernelS.l0] at H
  by_cases c4 : x5_1 < (l0.length : Int)
  rotate_left
  · rw [if_neg c4] at H
    have c4b0 : decide (x5_1 < (l0.length : Int)) = false := decide_eq_false c4
    clear c4
    obtain rfl := Option.some.inj H
    go_wp2
    go_ret
    exact ⟨zE, zB⟩
  rw [if_pos c4] at H
  have c4b0 : decide (x5_1 < (l0.length : Int)) = true := decide_eq_true c4
  clear c4
  by_cases c5 : 0 ≤ x5_1
  rotate_left
  · rw [if_neg c5] at H
    exact absurd H (by simp)
  rw [if_pos c5] at H
  have c5b0 : decide (0 ≤ x5_1) = true := decide_eq_true c5
  clear c5
  by_cases c6 : x5_1 < (l1.length : Int)
  rotate_left
  · rw [if_neg c6] at H
    exact absurd H (by simp)
  rw [if_pos c6] at H
  have c6b0 : decide (x5_1 < (l1.length : Int)) = true := decide_eq_true c6
  clear c6
  replace H := Option.bind_eq_some_iff.mp H
  obtain ⟨t356, A70, H⟩ := H
  replace H : (if t356 = true then (laws_eqKernelS.l0 k1 l0 l1 (wrap64 (x5_1 + 1))) else (some false)) = some r := H
  have A7 := zK A70
  clear A70
  by_cases c8 : t356 = true
  rotate_left
  · replace c8 := Bool.eq_false_iff.mpr c8
    subst c8
    have H1 : (some false) = some r := by rw [if_neg (show ¬ (false = true) by decide)] at H; exact H
    clear H
    have H := H1
    clear H1
    obtain rfl := Option.some.inj H
    try go_wp2
    have n0_ := zK (ze HB.out)
    clear HB
    have HB := n0_
    clear n0_
    have p354 : 0 ≤ (x5_1 : Int) := of_decide_eq_true zA
    have q354 : x5_1 < (l0.length : Int) := of_decide_eq_true zA
    obtain ⟨ad354, A354_0, c354_0, A354_1, c354_1, A354_4, c354_4, A354_6, c354_6, e354, hx354_0, hx354_1, hx354_2, hx354_3, hx354_4, hx354_5, hx354_6, hl354_0, hi354_0, hl354_1, hi354_1, hl354_4, hi354_4, hl354_6, hi354_6⟩ := at_T132 HR0.out x5_1 p354 q354
    have hw354_6 := hx354_6
    have hw354_5 := hx354_5
    have hw354_4 := hx354_4
    have hw354_3 := hx354_3
    have hw354_2 := hx354_2
    have hw354_1 := hx354_1
    have hw354_0 := hx354_0
    cases e354
    (try replace hx354_0 := zX HB hx354_0)
    (try replace hx354_1 := zX HB hx354_1)
    (try replace hx354_2 := zX HB hx354_2)
    (try replace hx354_3 := zX HB hx354_3)
    (try replace hx354_4 := zX HB hx354_4)
    (try replace hx354_5 := zX HB hx354_5)
    (try replace hx354_6 := zX HB hx354_6)
    have HR354_0 := zK hi354_0
    have HC354_0 := zK hl354_0
    clear hi354_0 hl354_0
    have HR354_1 := zK hi354_1
    have HC354_1 := zK hl354_1
    clear hi354_1 hl354_1
    have HR354_4 := zK hi354_4
    have HC354_4 := zK hl354_4
    clear hi354_4 hl354_4
    have HR354_6 := zK hi354_6
    have HC354_6 := zK hl354_6
    clear hi354_6 hl354_6
    replace p354 := eq_true p354
    replace q354 := eq_true q354
    have p355 : 0 ≤ (x5_1 : Int) := of_decide_eq_true zA
    have q355 : x5_1 < (l1.length : Int) := of_decide_eq_true zA
    obtain ⟨ad355, A355_0, c355_0, A355_1, c355_1, A355_4, c355_4, A355_6, c355_6, e355, hx355_0, hx355_1, hx355_2, hx355_3, hx355_4, hx355_5, hx355_6, hl355_0, hi355_0, hl355_1, hi355_1, hl355_4, hi355_4, hl355_6, hi355_6⟩ := at_T132 HR1.out x5_1 p355 q355
    have hw355_6 := hx355_6
    have hw355_5 := hx355_5
    have hw355_4 := hx355_4
    have hw355_3 := hx355_3
    have hw355_2 := hx355_2
    have hw355_1 := hx355_1
    have hw355_0 := hx355_0
    cases e355
    (try replace hx355_0 := zX HB hx355_0)
    (try replace hx355_1 := zX HB hx355_1)
    (try replace hx355_2 := zX HB hx355_2)
    (try replace hx355_3 := zX HB hx355_3)
    (try replace hx355_4 := zX HB hx355_4)
    (try replace hx355_5 := zX HB hx355_5)
    (try replace hx355_6 := zX HB hx355_6)
    have HR355_0 := zK hi355_0
    have HC355_0 := zK hl355_0
    clear hi355_0 hl355_0
    have HR355_1 := zK hi355_1
    have HC355_1 := zK hl355_1
    clear hi355_1 hl355_1
    have HR355_4 := zK hi355_4
    have HC355_4 := zK hl355_4
    clear hi355_4 hl355_4
    have HR355_6 := zK hi355_6
    have HC355_6 := zK hl355_6
    clear hi355_6 hl355_6
    replace p355 := eq_true p355
    replace q355 := eq_true q355
    refine start_ (n := 10) (S := fun w' => w'.cell? (ad354.add ((x5_1).toNat * 7)) = some (.slice A354_0 ((rd_T132 l0 x5_1).f0).length c354_0) ∧ w'.cell? ⟨(ad354.add ((x5_1).toNat * 7)).block, (ad354.add ((x5_1).toNat * 7)).off + 1, none⟩ = some (.slice A354_1 ((rd_T132 l0 x5_1).f1).length c354_1) ∧ w'.cell? ⟨(ad354.add ((x5_1).toNat * 7)).block, (ad354.add ((x5_1).toNat * 7)).off + 2, none⟩ = some (.int .i64 ((rd_T132 l0 x5_1).f2.f0)) ∧ w'.cell? ⟨(ad354.add ((x5_1).toNat * 7)).block, (ad354.add ((x5_1).toNat * 7)).off + 3, none⟩ = some (.int .i64 ((rd_T132 l0 x5_1).f2.f1)) ∧ w'.cell? ⟨(ad354.add ((x5_1).toNat * 7)).block, (ad354.add ((x5_1).toNat * 7)).off + 4, none⟩ = some (.slice A354_4 ((rd_T132 l0 x5_1).f2.f2).length c354_4) ∧ w'.cell? ⟨(ad354.add ((x5_1).toNat * 7)).block, (ad354.add ((x5_1).toNat * 7)).off + 5, none⟩ = some (.bool ((rd_T132 l0 x5_1).f3)) ∧ w'.cell? ⟨(ad354.add ((x5_1).toNat * 7)).block, (ad354.add ((x5_1).toNat * 7)).off + 6, none⟩ = some (.slice A354_6 ((rd_T132 l0 x5_1).f4).length c354_6) ∧ w'.cell? (ad355.add ((x5_1).toNat * 7)) = some (.slice A355_0 ((rd_T132 l1 x5_1).f0).length c355_0) ∧ w'.cell? ⟨(ad355.add ((x5_1).toNat * 7)).block, (ad355.add ((x5_1).toNat * 7)).off + 1, none⟩ = some (.slice A355_1 ((rd_T132 l1 x5_1).f1).length c355_1) ∧ w'.cell? ⟨(ad355.add ((x5_1).toNat * 7)).block, (ad355.add ((x5_1).toNat * 7)).off + 2, none⟩ = some (.int .i64 ((rd_T132 l1 x5_1).f2.f0)) ∧ w'.cell? ⟨(ad355.add ((x5_1).toNat * 7)).block, (ad355.add ((x5_1).toNat * 7)).off + 3, none⟩ = some (.int .i64 ((rd_T132 l1 x5_1).f2.f1)) ∧ w'.cell? ⟨(ad355.add ((x5_1).toNat * 7)).block, (ad355.add ((x5_1).toNat * 7)).off + 4, none⟩ = some (.slice A355_4 ((rd_T132 l1 x5_1).f2.f2).length c355_4) ∧ w'.cell? ⟨(ad355.add ((x5_1).toNat * 7)).block, (ad355.add ((x5_1).toNat * 7)).off + 5, none⟩ = some (.bool ((rd_T132 l1 x5_1).f3)) ∧ w'.cell? ⟨(ad355.add ((x5_1).toNat * 7)).block, (ad355.add ((x5_1).toNat * 7)).off + 6, none⟩ = some (.slice A355_6 ((rd_T132 l1 x5_1).f4).length c355_6)) (ds := []) (bl 10 0) (by kernel_rfl) rfl (by kernel_rfl) ⟨(zX HB hw354_0), (zX HB hw354_1), (zX HB hw354_2), (zX HB hw354_3), (zX HB hw354_4), (zX HB hw354_5), (zX HB hw354_6), (zX HB hw355_0), (zX HB hw355_1), (zX HB hw355_2), (zX HB hw355_3), (zX HB hw355_4), (zX HB hw355_5), (zX HB hw355_6)⟩ (fun hHeld => ?_); refine with_tabW laws_eqKernelS.tab6 laws_eqKernelS.bits6 (fun HT_ HW_ => ?_)
    generalize wr.drew = w11 at HB HR354_0 HR354_1 HR354_4 HR354_6 HR355_0 HR355_1 HR355_4 HR355_6 hx354_0 hx354_1 hx354_2 hx354_3 hx354_4 hx354_5 hx354_6 hx355_0 hx355_1 hx355_2 hx355_3 hx355_4 hx355_5 hx355_6 hHeld ⊢
    refine zP 0 17 (bl 10 1) HT_ ?_
    refine zP 1 18 (bl 10 3) HT_ ?_
    refine zP 2 19 (bl 10 7) HT_ ?_
    refine zP 4 21 (bl 10 23) HT_ ?_
    refine zP 5 22 (bl 10 55) HT_ ?_
    refine zP 6 23 (bl 10 119) HT_ ?_
    refine zT 3 20 (bl 10 127) rfl rfl HT_ HW_ hHeld (by rintro w' ⟨s0, s1, s2, s3, s4, s5, s6, s7, s8, s9, s10, s11, s12, s13⟩; go_simp; with_reducible rfl) ?_
    refine zT 7 24 (bl 10 255) rfl rfl HT_ HW_ hHeld (by rintro w' ⟨s0, s1, s2, s3, s4, s5, s6, s7, s8, s9, s10, s11, s12, s13⟩; go_simp; with_reducible rfl) ?_
    refine one_ (i := 8) (N := some 25) (bl 10 511) rfl rfl (one_of HT_.out (by kernel_rfl)) (by decide) (fun K hK => ?_)
    refine goes_ Try.func156 (by kernel_rfl) rfl #[.agg #[.slice A354_0 ((rd_T132 l0 x5_1).f0).length c354_0, .slice A354_1 ((rd_T132 l0 x5_1).f1).length c354_1, .int .i64 ((rd_T132 l0 x5_1).f2.f0), .int .i64 ((rd_T132 l0 x5_1).f2.f1), .slice A354_4 ((rd_T132 l0 x5_1).f2.f2).length c354_4, .bool ((rd_T132 l0 x5_1).f3), .slice A354_6 ((rd_T132 l0 x5_1).f4).length c354_6], .agg #[.slice A355_0 ((rd_T132 l1 x5_1).f0).length c355_0, .slice A355_1 ((rd_T132 l1 x5_1).f1).length c355_1, .int .i64 ((rd_T132 l1 x5_1).f2.f0), .int .i64 ((rd_T132 l1 x5_1).f2.f1), .slice A355_4 ((rd_T132 l1 x5_1).f2.f2).length c355_4, .bool ((rd_T132 l1 x5_1).f3), .slice A355_6 ((rd_T132 l1 x5_1).f4).length c355_6]] (by rfl) rfl rfl zL ?_
    with_reducible refine (laws_eqKernel.calls k1 _ _ ((rd_T132 l0 x5_1).f0) _ _ ((rd_T132 l0 x5_1).f1) ((rd_T132 l0 x5_1).f2.f0) ((rd_T132 l0 x5_1).f2.f1) _ _ ((rd_T132 l0 x5_1).f2.f2) ((rd_T132 l0 x5_1).f3) _ _ ((rd_T132 l0 x5_1).f4) _ _ ((rd_T132 l1 x5_1).f0) _ _ ((rd_T132 l1 x5_1).f1) ((rd_T132 l1 x5_1).f2.f0) ((rd_T132 l1 x5_1).f2.f1) _ _ ((rd_T132 l1 x5_1).f2.f2) ((rd_T132 l1 x5_1).f3) _ _ ((rd_T132 l1 x5_1).f4) false _ ?side1 ?side2 ?side3 ?side4 ?side5 ?side6 ?side7 ?side8 ?side9 ?side10 ?side11 ?side12 ?side13 ?side14 ?side15 ?side16 A7.out).mono ?_
    (case side1 => exact zC (Kd.C_below HR354_0.out HB.out))
    (case side2 => exact HC354_0.out)
    (case side3 => exact zC (Kd.C_below HR354_1.out HB.out))
    (case side4 => exact HC354_1.out)
    (case side5 => exact zC (Kd.C_below HR354_4.out HB.out))
    (case side6 => exact HC354_4.out)
    (case side7 => exact zC (Kd.C_below HR354_6.out HB.out))
    (case side8 => exact HC354_6.out)
    (case side9 => exact zC (Kd.C_below HR355_0.out HB.out))
    (case side10 => exact HC355_0.out)
    (case side11 => exact zC (Kd.C_below HR355_1.out HB.out))
    (case side12 => exact HC355_1.out)
    (case side13 => exact zC (Kd.C_below HR355_4.out HB.out))
    (case side14 => exact HC355_4.out)
    (case side15 => exact zC (Kd.C_below HR355_6.out HB.out))
    (case side16 => exact HC355_6.out)
    rintro e w12 ⟨rfl, hb⟩
    refine ⟨_, rfl, ?_⟩
    have n0_ := zK (zp zB hb)
    clear HB
    have HB := n0_
    clear n0_
    (try clear hb)
    (try clear hb2)
    (try clear hk)
    (try clear hi)
    refine hK.out _ _ ⟨(zX HB hw354_0), (zX HB hw354_1), (zX HB hw354_2), (zX HB hw354_3), (zX HB hw354_4), (zX HB hw354_5), (zX HB hw354_6), (zX HB hw355_0), (zX HB hw355_1), (zX HB hw355_2), (zX HB hw355_3), (zX HB hw355_4), (zX HB hw355_5), (zX HB hw355_6)⟩ (fun hHeld => ?_)
    clear hK K
    refine zU 25 ?_
    refine zP 9 26 (bl 10 1023) HT_ ?_
    refine done_ (done_of HT_.out (by kernel_rfl)) ?_
    try go_wp2
    go_ret
    exact ⟨zE, zB⟩
  subst c8
  have H1 : (laws_eqKernelS.l0 k1 l0 l1 (wrap64 (x5_1 + 1))) = some r := by rw [if_pos rfl] at H; exact H
  clear H
  have H := H1
  clear H1
  have H' := zK H
  clear H
  try go_wp2
  have n0_ := zK (ze HB.out)
  clear HB
  have HB := n0_
  clear n0_
  have p354 : 0 ≤ (x5_1 : Int) := of_decide_eq_true zA
  have q354 : x5_1 < (l0.length : Int) := of_decide_eq_true zA
  obtain ⟨ad354, A354_0, c354_0, A354_1, c354_1, A354_4, c354_4, A354_6, c354_6, e354, hx354_0, hx354_1, hx354_2, hx354_3, hx354_4, hx354_5, hx354_6, hl354_0, hi354_0, hl354_1, hi354_1, hl354_4, hi354_4, hl354_6, hi354_6⟩ := at_T132 HR0.out x5_1 p354 q354
  have hw354_6 := hx354_6
  have hw354_5 := hx354_5
  have hw354_4 := hx354_4
  have hw354_3 := hx354_3
  have hw354_2 := hx354_2
  have hw354_1 := hx354_1
  have hw354_0 := hx354_0
  cases e354
  (try replace hx354_0 := zX HB hx354_0)
  (try replace hx354_1 := zX HB hx354_1)
  (try replace hx354_2 := zX HB hx354_2)
  (try replace hx354_3 := zX HB hx354_3)
  (try replace hx354_4 := zX HB hx354_4)
  (try replace hx354_5 := zX HB hx354_5)
  (try replace hx354_6 := zX HB hx354_6)
  have HR354_0 := zK hi354_0
  have HC354_0 := zK hl354_0
  clear hi354_0 hl354_0
  have HR354_1 := zK hi354_1
  have HC354_1 := zK hl354_1
  clear hi354_1 hl354_1
  have HR354_4 := zK hi354_4
  have HC354_4 := zK hl354_4
  clear hi354_4 hl354_4
  have HR354_6 := zK hi354_6
  have HC354_6 := zK hl354_6
  clear hi354_6 hl354_6
  replace p354 := eq_true p354
  replace q354 := eq_true q354
  have p355 : 0 ≤ (x5_1 : Int) := of_decide_eq_true zA
  have q355 : x5_1 < (l1.length : Int) := of_decide_eq_true zA
  obtain ⟨ad355, A355_0, c355_0, A355_1, c355_1, A355_4, c355_4, A355_6, c355_6, e355, hx355_0, hx355_1, hx355_2, hx355_3, hx355_4, hx355_5, hx355_6, hl355_0, hi355_0, hl355_1, hi355_1, hl355_4, hi355_4, hl355_6, hi355_6⟩ := at_T132 HR1.out x5_1 p355 q355
  have hw355_6 := hx355_6
  have hw355_5 := hx355_5
  have hw355_4 := hx355_4
  have hw355_3 := hx355_3
  have hw355_2 := hx355_2
  have hw355_1 := hx355_1
  have hw355_0 := hx355_0
  cases e355
  (try replace hx355_0 := zX HB hx355_0)
  (try replace hx355_1 := zX HB hx355_1)
  (try replace hx355_2 := zX HB hx355_2)
  (try replace hx355_3 := zX HB hx355_3)
  (try replace hx355_4 := zX HB hx355_4)
  (try replace hx355_5 := zX HB hx355_5)
  (try replace hx355_6 := zX HB hx355_6)
  have HR355_0 := zK hi355_0
  have HC355_0 := zK hl355_0
  clear hi355_0 hl355_0
  have HR355_1 := zK hi355_1
  have HC355_1 := zK hl355_1
  clear hi355_1 hl355_1
  have HR355_4 := zK hi355_4
  have HC355_4 := zK hl355_4
  clear hi355_4 hl355_4
  have HR355_6 := zK hi355_6
  have HC355_6 := zK hl355_6
  clear hi355_6 hl355_6
  replace p355 := eq_true p355
  replace q355 := eq_true q355
  refine start_ (n := 10) (S := fun w' => w'.cell? (ad354.add ((x5_1).toNat * 7)) = some (.slice A354_0 ((rd_T132 l0 x5_1).f0).length c354_0) ∧ w'.cell? ⟨(ad354.add ((x5_1).toNat * 7)).block, (ad354.add ((x5_1).toNat * 7)).off + 1, none⟩ = some (.slice A354_1 ((rd_T132 l0 x5_1).f1).length c354_1) ∧ w'.cell? ⟨(ad354.add ((x5_1).toNat * 7)).block, (ad354.add ((x5_1).toNat * 7)).off + 2, none⟩ = some (.int .i64 ((rd_T132 l0 x5_1).f2.f0)) ∧ w'.cell? ⟨(ad354.add ((x5_1).toNat * 7)).block, (ad354.add ((x5_1).toNat * 7)).off + 3, none⟩ = some (.int .i64 ((rd_T132 l0 x5_1).f2.f1)) ∧ w'.cell? ⟨(ad354.add ((x5_1).toNat * 7)).block, (ad354.add ((x5_1).toNat * 7)).off + 4, none⟩ = some (.slice A354_4 ((rd_T132 l0 x5_1).f2.f2).length c354_4) ∧ w'.cell? ⟨(ad354.add ((x5_1).toNat * 7)).block, (ad354.add ((x5_1).toNat * 7)).off + 5, none⟩ = some (.bool ((rd_T132 l0 x5_1).f3)) ∧ w'.cell? ⟨(ad354.add ((x5_1).toNat * 7)).block, (ad354.add ((x5_1).toNat * 7)).off + 6, none⟩ = some (.slice A354_6 ((rd_T132 l0 x5_1).f4).length c354_6) ∧ w'.cell? (ad355.add ((x5_1).toNat * 7)) = some (.slice A355_0 ((rd_T132 l1 x5_1).f0).length c355_0) ∧ w'.cell? ⟨(ad355.add ((x5_1).toNat * 7)).block, (ad355.add ((x5_1).toNat * 7)).off + 1, none⟩ = some (.slice A355_1 ((rd_T132 l1 x5_1).f1).length c355_1) ∧ w'.cell? ⟨(ad355.add ((x5_1).toNat * 7)).block, (ad355.add ((x5_1).toNat * 7)).off + 2, none⟩ = some (.int .i64 ((rd_T132 l1 x5_1).f2.f0)) ∧ w'.cell? ⟨(ad355.add ((x5_1).toNat * 7)).block, (ad355.add ((x5_1).toNat * 7)).off + 3, none⟩ = some (.int .i64 ((rd_T132 l1 x5_1).f2.f1)) ∧ w'.cell? ⟨(ad355.add ((x5_1).toNat * 7)).block, (ad355.add ((x5_1).toNat * 7)).off + 4, none⟩ = some (.slice A355_4 ((rd_T132 l1 x5_1).f2.f2).length c355_4) ∧ w'.cell? ⟨(ad355.add ((x5_1).toNat * 7)).block, (ad355.add ((x5_1).toNat * 7)).off + 5, none⟩ = some (.bool ((rd_T132 l1 x5_1).f3)) ∧ w'.cell? ⟨(ad355.add ((x5_1).toNat * 7)).block, (ad355.add ((x5_1).toNat * 7)).off + 6, none⟩ = some (.slice A355_6 ((rd_T132 l1 x5_1).f4).length c355_6)) (ds := []) (bl 10 0) (by kernel_rfl) rfl (by kernel_rfl) ⟨(zX HB hw354_0), (zX HB hw354_1), (zX HB hw354_2), (zX HB hw354_3), (zX HB hw354_4), (zX HB hw354_5), (zX HB hw354_6), (zX HB hw355_0), (zX HB hw355_1), (zX HB hw355_2), (zX HB hw355_3), (zX HB hw355_4), (zX HB hw355_5), (zX HB hw355_6)⟩ (fun hHeld => ?_); refine with_tabW laws_eqKernelS.tab6 laws_eqKernelS.bits6 (fun HT_ HW_ => ?_)
  generalize wr.drew = w9 at HB HR354_0 HR354_1 HR354_4 HR354_6 HR355_0 HR355_1 HR355_4 HR355_6 hx354_0 hx354_1 hx354_2 hx354_3 hx354_4 hx354_5 hx354_6 hx355_0 hx355_1 hx355_2 hx355_3 hx355_4 hx355_5 hx355_6 hHeld ⊢
  refine zP 0 17 (bl 10 1) HT_ ?_
  refine zP 1 18 (bl 10 3) HT_ ?_
  refine zP 2 19 (bl 10 7) HT_ ?_
  refine zP 4 21 (bl 10 23) HT_ ?_
  refine zP 5 22 (bl 10 55) HT_ ?_
  refine zP 6 23 (bl 10 119) HT_ ?_
  refine zT 3 20 (bl 10 127) rfl rfl HT_ HW_ hHeld (by rintro w' ⟨s0, s1, s2, s3, s4, s5, s6, s7, s8, s9, s10, s11, s12, s13⟩; go_simp; with_reducible rfl) ?_
  refine zT 7 24 (bl 10 255) rfl rfl HT_ HW_ hHeld (by rintro w' ⟨s0, s1, s2, s3, s4, s5, s6, s7, s8, s9, s10, s11, s12, s13⟩; go_simp; with_reducible rfl) ?_
  refine one_ (i := 8) (N := some 25) (bl 10 511) rfl rfl (one_of HT_.out (by kernel_rfl)) (by decide) (fun K hK => ?_)
  refine goes_ Try.func156 (by kernel_rfl) rfl #[.agg #[.slice A354_0 ((rd_T132 l0 x5_1).f0).length c354_0, .slice A354_1 ((rd_T132 l0 x5_1).f1).length c354_1, .int .i64 ((rd_T132 l0 x5_1).f2.f0), .int .i64 ((rd_T132 l0 x5_1).f2.f1), .slice A354_4 ((rd_T132 l0 x5_1).f2.f2).length c354_4, .bool ((rd_T132 l0 x5_1).f3), .slice A354_6 ((rd_T132 l0 x5_1).f4).length c354_6], .agg #[.slice A355_0 ((rd_T132 l1 x5_1).f0).length c355_0, .slice A355_1 ((rd_T132 l1 x5_1).f1).length c355_1, .int .i64 ((rd_T132 l1 x5_1).f2.f0), .int .i64 ((rd_T132 l1 x5_1).f2.f1), .slice A355_4 ((rd_T132 l1 x5_1).f2.f2).length c355_4, .bool ((rd_T132 l1 x5_1).f3), .slice A355_6 ((rd_T132 l1 x5_1).f4).length c355_6]] (by rfl) rfl rfl zL ?_
  with_reducible refine (laws_eqKernel.calls k1 _ _ ((rd_T132 l0 x5_1).f0) _ _ ((rd_T132 l0 x5_1).f1) ((rd_T132 l0 x5_1).f2.f0) ((rd_T132 l0 x5_1).f2.f1) _ _ ((rd_T132 l0 x5_1).f2.f2) ((rd_T132 l0 x5_1).f3) _ _ ((rd_T132 l0 x5_1).f4) _ _ ((rd_T132 l1 x5_1).f0) _ _ ((rd_T132 l1 x5_1).f1) ((rd_T132 l1 x5_1).f2.f0) ((rd_T132 l1 x5_1).f2.f1) _ _ ((rd_T132 l1 x5_1).f2.f2) ((rd_T132 l1 x5_1).f3) _ _ ((rd_T132 l1 x5_1).f4) true _ ?side1 ?side2 ?side3 ?side4 ?side5 ?side6 ?side7 ?side8 ?side9 ?side10 ?side11 ?side12 ?side13 ?side14 ?side15 ?side16 A7.out).mono ?_
  (case side1 => exact zC (Kd.C_below HR354_0.out HB.out))
  (case side2 => exact HC354_0.out)
  (case side3 => exact zC (Kd.C_below HR354_1.out HB.out))
  (case side4 => exact HC354_1.out)
  (case side5 => exact zC (Kd.C_below HR354_4.out HB.out))
  (case side6 => exact HC354_4.out)
  (case side7 => exact zC (Kd.C_below HR354_6.out HB.out))
  (case side8 => exact HC354_6.out)
  (case side9 => exact zC (Kd.C_below HR355_0.out HB.out))
  (case side10 => exact HC355_0.out)
  (case side11 => exact zC (Kd.C_below HR355_1.out HB.out))
  (case side12 => exact HC355_1.out)
  (case side13 => exact zC (Kd.C_below HR355_4.out HB.out))
  (case side14 => exact HC355_4.out)
  (case side15 => exact zC (Kd.C_below HR355_6.out HB.out))
  (case side16 => exact HC355_6.out)
  rintro e w10 ⟨rfl, hb⟩
  refine ⟨_, rfl, ?_⟩
  have n0_ := zK (zp zB hb)
  clear HB
  have HB := n0_
  clear n0_
  (try clear hb)
  (try clear hb2)
  (try clear hk)
  (try clear hi)
  refine hK.out _ _ ⟨(zX HB hw354_0), (zX HB hw354_1), (zX HB hw354_2), (zX HB hw354_3), (zX HB hw354_4), (zX HB hw354_5), (zX HB hw354_6), (zX HB hw355_0), (zX HB hw355_1), (zX HB hw355_2), (zX HB hw355_3), (zX HB hw355_4), (zX HB hw355_5), (zX HB hw355_6)⟩ (fun hHeld => ?_)
  clear hK K
  refine zU 25 ?_
  refine zP 9 26 (bl 10 1023) HT_ ?_
  refine done_ (done_of HT_.out (by kernel_rfl)) ?_
  try go_wp2
  go_roundg k1
  case measure => have := HK1.out; omega
  case rel => exact ⟨(wrap64 (x5_1 + 1)), zR, H', ⟨by have := HK1.out; omega⟩, ⟨zB⟩⟩

/-! ### laws_eqNest: function 35 -/
def laws_eqNest.f (k : Nat) (l0_0 : List Int) (l0_1 : List Int) (l0_2 : List (S125)) (l0_3 : List (S132)) (l0_4 : List Int) (l1_0 : List Int) (l1_1 : List Int) (l1_2 : List (S125)) (l1_3 : List (S132)) (l1_4 : List Int) : Option (Bool) := (laws_eqIntS.f k l0_0 l1_0).bind fun t359 => (if t359 = true then ((laws_eqIntS.f k l0_1 l1_1).bind fun t360 => (if t360 = true then ((laws_eqFixS.f k l0_2 l1_2).bind fun t361 => (if t361 = true then ((laws_eqKernelS.f k l0_3 l1_3).bind fun t362 => (if t362 = true then ((laws_eqIntS.f k l0_4 l1_4).bind fun t363 => (if t363 = true then (some true) else (some false))) else (some false))) else (some false))) else (some false))) else (some false))
theorem laws_eqNest.mono : ∀ a0 a1 a2 a3 a4 a5 a6 a7 a8 a9 k, LeO (laws_eqNest.f k a0 a1 a2 a3 a4 a5 a6 a7 a8 a9) (laws_eqNest.f (k + 1) a0 a1 a2 a3 a4 a5 a6 a7 a8 a9) := by
  intro a0 a1 a2 a3 a4 a5 a6 a7 a8 a9 k
  unfold laws_eqNest.f
  repeat' first
      | (with_reducible exact laws_eqFixS.mono _ _ _)
      | (with_reducible exact laws_eqIntS.mono _ _ _)
      | (with_reducible exact laws_eqKernelS.mono _ _ _)
      | (with_reducible exact LeO.refl _)
      | (with_reducible exact LeO.none _)
      | (with_reducible refine LeO.ite ?_ ?_)
      | (with_reducible refine LeO.bind ?_ (fun _ => ?_))
      | exact laws_eqFixS.mono _ _ _
      | exact laws_eqIntS.mono _ _ _
      | exact laws_eqKernelS.mono _ _ _
      | exact LeO.none _
      | refine LeO.ite ?_ ?_
      | refine LeO.bind ?_ (fun _ => ?_)
set_option maxHeartbeats 8000000 in
set_option maxRecDepth 100000 in
theorem laws_eqNest.calls (k : Nat) (A0_0 : Option Addr) (c0_0 : Nat) (l0_0 : List Int) (A0_1 : Option Addr) (c0_1 : Nat) (l0_1 : List Int) (A0_2 : Option Addr) (c0_2 : Nat) (l0_2 : List (S125)) (A0_3 : Option Addr) (c0_3 : Nat) (l0_3 : List (S132)) (A0_4 : Option Addr) (c0_4 : Nat) (l0_4 : List Int) (A1_0 : Option Addr) (c1_0 : Nat) (l1_0 : List Int) (A1_1 : Option Addr) (c1_1 : Nat) (l1_1 : List Int) (A1_2 : Option Addr) (c1_2 : Nat) (l1_2 : List (S125)) (A1_3 : Option Addr) (c1_3 : Nat) (l1_3 : List (S132)) (A1_4 : Option Addr) (c1_4 : Nat) (l1_4 : List Int) (r : Bool) (w : World) (hr0_0 : Kd.C (Kd.int .i64) w A0_0 l0_0.length l0_0) (hc0_0 : l0_0.length ≤ c0_0) (hr0_1 : Kd.C (Kd.int .i64) w A0_1 l0_1.length l0_1) (hc0_1 : l0_1.length ≤ c0_1) (hr0_2 : Kd.C k125 w A0_2 l0_2.length l0_2) (hc0_2 : l0_2.length ≤ c0_2) (hr0_3 : Kd.C k132 w A0_3 l0_3.length l0_3) (hc0_3 : l0_3.length ≤ c0_3) (hr0_4 : Kd.C (Kd.int .i64) w A0_4 l0_4.length l0_4) (hc0_4 : l0_4.length ≤ c0_4) (hr1_0 : Kd.C (Kd.int .i64) w A1_0 l1_0.length l1_0) (hc1_0 : l1_0.length ≤ c1_0) (hr1_1 : Kd.C (Kd.int .i64) w A1_1 l1_1.length l1_1) (hc1_1 : l1_1.length ≤ c1_1) (hr1_2 : Kd.C k125 w A1_2 l1_2.length l1_2) (hc1_2 : l1_2.length ≤ c1_2) (hr1_3 : Kd.C k132 w A1_3 l1_3.length l1_3) (hc1_3 : l1_3.length ≤ c1_3) (hr1_4 : Kd.C (Kd.int .i64) w A1_4 l1_4.length l1_4) (hc1_4 : l1_4.length ≤ c1_4) (h : laws_eqNest.f k l0_0 l0_1 l0_2 l0_3 l0_4 l1_0 l1_1 l1_2 l1_3 l1_4 = some r) :
    Calls Try.prog 35 #[.agg #[.slice A0_0 l0_0.length c0_0, .slice A0_1 l0_1.length c0_1, .slice A0_2 l0_2.length c0_2, .slice A0_3 l0_3.length c0_3, .slice A0_4 l0_4.length c0_4], .agg #[.slice A1_0 l1_0.length c1_0, .slice A1_1 l1_1.length c1_1, .slice A1_2 l1_2.length c1_2, .slice A1_3 l1_3.length c1_3, .slice A1_4 l1_4.length c1_4]] w fun e w' => e = .returned (.bool r) ∧ Below w.heap.size w w' := by
  have hu70 := Try.underlying70
  have HR0_0 := zK hr0_0
  have HC0_0 := zK hc0_0
  clear hr0_0 hc0_0
  have HR0_1 := zK hr0_1
  have HC0_1 := zK hc0_1
  clear hr0_1 hc0_1
  have HR0_2 := zK hr0_2
  have HC0_2 := zK hc0_2
  clear hr0_2 hc0_2
  have HR0_3 := zK hr0_3
  have HC0_3 := zK hc0_3
  clear hr0_3 hc0_3
  have HR0_4 := zK hr0_4
  have HC0_4 := zK hc0_4
  clear hr0_4 hc0_4
  have HR1_0 := zK hr1_0
  have HC1_0 := zK hc1_0
  clear hr1_0 hc1_0
  have HR1_1 := zK hr1_1
  have HC1_1 := zK hc1_1
  clear hr1_1 hc1_1
  have HR1_2 := zK hr1_2
  have HC1_2 := zK hc1_2
  clear hr1_2 hc1_2
  have HR1_3 := zK hr1_3
  have HC1_3 := zK hc1_3
  clear hr1_3 hc1_3
  have HR1_4 := zK hr1_4
  have HC1_4 := zK hc1_4
  clear hr1_4 hc1_4
  have HB := zK (Below.refl w.heap.size w)
  have H : ((laws_eqIntS.f k l0_0 l1_0).bind fun t359 => (if t359 = true then ((laws_eqIntS.f k l0_1 l1_1).bind fun t360 => (if t360 = true then ((laws_eqFixS.f k l0_2 l1_2).bind fun t361 => (if t361 = true then ((laws_eqKernelS.f k l0_3 l1_3).bind fun t362 => (if t362 = true then ((laws_eqIntS.f k l0_4 l1_4).bind fun t363 => (if t363 = true then (some true) else (some false))) else (some false))) else (some false))) else (some false))) else (some false))) = some r := h
  clear h
  replace H := Option.bind_eq_some_iff.mp H
  obtain ⟨t359, A30, H⟩ := H
  replace H : (if t359 = true then ((laws_eqIntS.f k l0_1 l1_1).bind fun t360 => (if t360 = true then ((laws_eqFixS.f k l0_2 l1_2).bind fun t361 => (if t361 = true then ((laws_eqKernelS.f k l0_3 l1_3).bind fun t362 => (if t362 = true then ((laws_eqIntS.f k l0_4 l1_4).bind fun t363 => (if t363 = true then (some true) else (some false))) else (some false))) else (some false))) else (some false))) else (some false)) = some r := H
  have A3 := zK A30
  clear A30
  by_cases c4 : t359 = true
  rotate_left
  · replace c4 := Bool.eq_false_iff.mpr c4
    subst c4
    have H1 : (some false) = some r := by rw [if_neg (show ¬ (false = true) by decide)] at H; exact H
    clear H
    have H := H1
    clear H1
    obtain rfl := Option.some.inj H
    go_enter Try.func35, Try.ntmps35
    go_wp2_with (first | ((with_reducible refine gate_dst (N := 2) rfl ?_); refine zJ 2 #[.slice A0_0 l0_0.length c0_0, .slice A0_1 l0_1.length c0_1, .slice A0_2 l0_2.length c0_2, .slice A0_3 l0_3.length c0_3, .slice A0_4 l0_4.length c0_4] 70 ?_; intro gb357 hg w55 hbox hb; have n0_ := zK (zp zB hb); have n1_ := zK (hbox); have n2_ := zK (zI hg zB); have n3_ := zK (zI hg zB); clear HB; have HB := n0_; have BK357 := n1_; have GW357 := n2_; have GE357 := n3_; clear n0_ n1_ n2_ n3_; clear hb hbox hg) | ((with_reducible refine gate_dst (N := 3) rfl ?_); refine zJ 3 #[.slice A1_0 l1_0.length c1_0, .slice A1_1 l1_1.length c1_1, .slice A1_2 l1_2.length c1_2, .slice A1_3 l1_3.length c1_3, .slice A1_4 l1_4.length c1_4] 70 ?_; intro gb358 hg w56 hbox hb; have n0_ := zK (zg (zM BK357) hb); have n1_ := zK (zp zB hb); have n2_ := zK (hbox); have n3_ := zK (zI hg zB); have n4_ := zK (zI hg zB); have n5_ := zK (zH hg (zM BK357)); have n6_ := zK (zG hg (zM BK357)); clear BK357; clear HB; have BK357 := n0_; have HB := n1_; have BK358 := n2_; have GW358 := n3_; have GE358 := n4_; have NB357_358 := n5_; have NB358_357 := n6_; clear n0_ n1_ n2_ n3_ n4_ n5_ n6_; clear hb hbox hg; have hnb57 := NB357_358.out; have hnc57 := NB358_357.out; obtain ⟨hcz58_0, hcz58_1, hcz58_2, hcz58_3, hcz58_4, hfz58_0, hfz58_1, hfz58_2, hfz58_3, hfz58_4⟩ := zc5 BK357; obtain ⟨hcz59_0, hcz59_1, hcz59_2, hcz59_3, hcz59_4, hfz59_0, hfz59_1, hfz59_2, hfz59_3, hfz59_4⟩ := zc5 BK358) | ((with_reducible refine gate_callee (f := 42) rfl ?_); refine zF 9 Try.func42 #[.slice A0_0 l0_0.length c0_0, .slice A1_0 l1_0.length c1_0] rfl zL ?_; (with_reducible refine (laws_eqIntS.calls k _ _ l0_0 _ _ l1_0 false _ ?side1 ?side2 ?side3 ?side4 A3.out).mono ?_); (case side1 => exact zC (Kd.C_below HR0_0.out HB.out)); (case side2 => exact HC0_0.out); (case side3 => exact zC (Kd.C_below HR1_0.out HB.out)); (case side4 => exact HC1_0.out); rintro e w' ⟨rfl, ⟨nd, rfl⟩⟩; refine ⟨_, rfl, ?_⟩))
    go_ret
    exact ⟨zE, zB⟩
  subst c4
  have H1 : ((laws_eqIntS.f k l0_1 l1_1).bind fun t360 => (if t360 = true then ((laws_eqFixS.f k l0_2 l1_2).bind fun t361 => (if t361 = true then ((laws_eqKernelS.f k l0_3 l1_3).bind fun t362 => (if t362 = true then ((laws_eqIntS.f k l0_4 l1_4).bind fun t363 => (if t363 = true then (some true) else (some false))) else (some false))) else (some false))) else (some false))) = some r := by rw [if_pos rfl] at H; exact H
  clear H
  have H := H1
  clear H1
  replace H := Option.bind_eq_some_iff.mp H
  obtain ⟨t360, A50, H⟩ := H
  replace H : (if t360 = true then ((laws_eqFixS.f k l0_2 l1_2).bind fun t361 => (if t361 = true then ((laws_eqKernelS.f k l0_3 l1_3).bind fun t362 => (if t362 = true then ((laws_eqIntS.f k l0_4 l1_4).bind fun t363 => (if t363 = true then (some true) else (some false))) else (some false))) else (some false))) else (some false)) = some r := H
  have A5 := zK A50
  clear A50
  by_cases c6 : t360 = true
  rotate_left
  · replace c6 := Bool.eq_false_iff.mpr c6
    subst c6
    have H1 : (some false) = some r := by rw [if_neg (show ¬ (false = true) by decide)] at H; exact H
    clear H
    have H := H1
    clear H1
    obtain rfl := Option.some.inj H
    go_enter Try.func35, Try.ntmps35
    go_wp2_with (first | ((with_reducible refine gate_dst (N := 2) rfl ?_); refine zJ 2 #[.slice A0_0 l0_0.length c0_0, .slice A0_1 l0_1.length c0_1, .slice A0_2 l0_2.length c0_2, .slice A0_3 l0_3.length c0_3, .slice A0_4 l0_4.length c0_4] 70 ?_; intro gb357 hg w50 hbox hb; have n0_ := zK (zp zB hb); have n1_ := zK (hbox); have n2_ := zK (zI hg zB); have n3_ := zK (zI hg zB); clear HB; have HB := n0_; have BK357 := n1_; have GW357 := n2_; have GE357 := n3_; clear n0_ n1_ n2_ n3_; clear hb hbox hg) | ((with_reducible refine gate_dst (N := 3) rfl ?_); refine zJ 3 #[.slice A1_0 l1_0.length c1_0, .slice A1_1 l1_1.length c1_1, .slice A1_2 l1_2.length c1_2, .slice A1_3 l1_3.length c1_3, .slice A1_4 l1_4.length c1_4] 70 ?_; intro gb358 hg w51 hbox hb; have n0_ := zK (zg (zM BK357) hb); have n1_ := zK (zp zB hb); have n2_ := zK (hbox); have n3_ := zK (zI hg zB); have n4_ := zK (zI hg zB); have n5_ := zK (zH hg (zM BK357)); have n6_ := zK (zG hg (zM BK357)); clear BK357; clear HB; have BK357 := n0_; have HB := n1_; have BK358 := n2_; have GW358 := n3_; have GE358 := n4_; have NB357_358 := n5_; have NB358_357 := n6_; clear n0_ n1_ n2_ n3_ n4_ n5_ n6_; clear hb hbox hg; have hnb52 := NB357_358.out; have hnc52 := NB358_357.out; obtain ⟨hcz53_0, hcz53_1, hcz53_2, hcz53_3, hcz53_4, hfz53_0, hfz53_1, hfz53_2, hfz53_3, hfz53_4⟩ := zc5 BK357; obtain ⟨hcz54_0, hcz54_1, hcz54_2, hcz54_3, hcz54_4, hfz54_0, hfz54_1, hfz54_2, hfz54_3, hfz54_4⟩ := zc5 BK358) | ((with_reducible refine gate_callee (f := 42) rfl ?_); refine zF 9 Try.func42 #[.slice A0_0 l0_0.length c0_0, .slice A1_0 l1_0.length c1_0] rfl zL ?_; (with_reducible refine (laws_eqIntS.calls k _ _ l0_0 _ _ l1_0 true _ ?side1 ?side2 ?side3 ?side4 A3.out).mono ?_); (case side1 => exact zC (Kd.C_below HR0_0.out HB.out)); (case side2 => exact HC0_0.out); (case side3 => exact zC (Kd.C_below HR1_0.out HB.out)); (case side4 => exact HC1_0.out); rintro e w' ⟨rfl, ⟨nd, rfl⟩⟩; refine ⟨_, rfl, ?_⟩) | ((with_reducible refine gate_callee (f := 42) rfl ?_); refine zF 15 Try.func42 #[.slice A0_1 l0_1.length c0_1, .slice A1_1 l1_1.length c1_1] rfl zL ?_; (with_reducible refine (laws_eqIntS.calls k _ _ l0_1 _ _ l1_1 false _ ?side1 ?side2 ?side3 ?side4 A5.out).mono ?_); (case side1 => exact zC (Kd.C_below HR0_1.out zB)); (case side2 => exact HC0_1.out); (case side3 => exact zC (Kd.C_below HR1_1.out zB)); (case side4 => exact HC1_1.out); rintro e w' ⟨rfl, ⟨nd, rfl⟩⟩; refine ⟨_, rfl, ?_⟩))
    go_ret
    exact ⟨zE, zB⟩
  subst c6
  have H1 : ((laws_eqFixS.f k l0_2 l1_2).bind fun t361 => (if t361 = true then ((laws_eqKernelS.f k l0_3 l1_3).bind fun t362 => (if t362 = true then ((laws_eqIntS.f k l0_4 l1_4).bind fun t363 => (if t363 = true then (some true) else (some false))) else (some false))) else (some false))) = some r := by rw [if_pos rfl] at H; exact H
  clear H
  have H := H1
  clear H1
  replace H := Option.bind_eq_some_iff.mp H
  obtain ⟨t361, A70, H⟩ := H
  replace H : (if t361 = true then ((laws_eqKernelS.f k l0_3 l1_3).bind fun t362 => (if t362 = true then ((laws_eqIntS.f k l0_4 l1_4).bind fun t363 => (if t363 = true then (some true) else (some false))) else (some false))) else (some false)) = some r := H
  have A7 := zK A70
  clear A70
  by_cases c8 : t361 = true
  rotate_left
  · replace c8 := Bool.eq_false_iff.mpr c8
    subst c8
    have H1 : (some false) = some r := by rw [if_neg (show ¬ (false = true) by decide)] at H; exact H
    clear H
    have H := H1
    clear H1
    obtain rfl := Option.some.inj H
    go_enter Try.func35, Try.ntmps35
    go_wp2_with (first | ((with_reducible refine gate_dst (N := 2) rfl ?_); refine zJ 2 #[.slice A0_0 l0_0.length c0_0, .slice A0_1 l0_1.length c0_1, .slice A0_2 l0_2.length c0_2, .slice A0_3 l0_3.length c0_3, .slice A0_4 l0_4.length c0_4] 70 ?_; intro gb357 hg w44 hbox hb; have n0_ := zK (zp zB hb); have n1_ := zK (hbox); have n2_ := zK (zI hg zB); have n3_ := zK (zI hg zB); clear HB; have HB := n0_; have BK357 := n1_; have GW357 := n2_; have GE357 := n3_; clear n0_ n1_ n2_ n3_; clear hb hbox hg) | ((with_reducible refine gate_dst (N := 3) rfl ?_); refine zJ 3 #[.slice A1_0 l1_0.length c1_0, .slice A1_1 l1_1.length c1_1, .slice A1_2 l1_2.length c1_2, .slice A1_3 l1_3.length c1_3, .slice A1_4 l1_4.length c1_4] 70 ?_; intro gb358 hg w45 hbox hb; have n0_ := zK (zg (zM BK357) hb); have n1_ := zK (zp zB hb); have n2_ := zK (hbox); have n3_ := zK (zI hg zB); have n4_ := zK (zI hg zB); have n5_ := zK (zH hg (zM BK357)); have n6_ := zK (zG hg (zM BK357)); clear BK357; clear HB; have BK357 := n0_; have HB := n1_; have BK358 := n2_; have GW358 := n3_; have GE358 := n4_; have NB357_358 := n5_; have NB358_357 := n6_; clear n0_ n1_ n2_ n3_ n4_ n5_ n6_; clear hb hbox hg; have hnb46 := NB357_358.out; have hnc46 := NB358_357.out; obtain ⟨hcz47_0, hcz47_1, hcz47_2, hcz47_3, hcz47_4, hfz47_0, hfz47_1, hfz47_2, hfz47_3, hfz47_4⟩ := zc5 BK357; obtain ⟨hcz48_0, hcz48_1, hcz48_2, hcz48_3, hcz48_4, hfz48_0, hfz48_1, hfz48_2, hfz48_3, hfz48_4⟩ := zc5 BK358) | ((with_reducible refine gate_callee (f := 42) rfl ?_); refine zF 9 Try.func42 #[.slice A0_0 l0_0.length c0_0, .slice A1_0 l1_0.length c1_0] rfl zL ?_; (with_reducible refine (laws_eqIntS.calls k _ _ l0_0 _ _ l1_0 true _ ?side1 ?side2 ?side3 ?side4 A3.out).mono ?_); (case side1 => exact zC (Kd.C_below HR0_0.out HB.out)); (case side2 => exact HC0_0.out); (case side3 => exact zC (Kd.C_below HR1_0.out HB.out)); (case side4 => exact HC1_0.out); rintro e w' ⟨rfl, ⟨nd, rfl⟩⟩; refine ⟨_, rfl, ?_⟩) | ((with_reducible refine gate_callee (f := 42) rfl ?_); refine zF 15 Try.func42 #[.slice A0_1 l0_1.length c0_1, .slice A1_1 l1_1.length c1_1] rfl zL ?_; (with_reducible refine (laws_eqIntS.calls k _ _ l0_1 _ _ l1_1 true _ ?side1 ?side2 ?side3 ?side4 A5.out).mono ?_); (case side1 => exact zC (Kd.C_below HR0_1.out zB)); (case side2 => exact HC0_1.out); (case side3 => exact zC (Kd.C_below HR1_1.out zB)); (case side4 => exact HC1_1.out); rintro e w' ⟨rfl, ⟨nd, rfl⟩⟩; refine ⟨_, rfl, ?_⟩) | ((with_reducible refine gate_callee (f := 94) rfl ?_); refine zF 21 Try.func94 #[.slice A0_2 l0_2.length c0_2, .slice A1_2 l1_2.length c1_2] rfl zL ?_; (with_reducible refine (laws_eqFixS.calls k _ _ l0_2 _ _ l1_2 false _ ?side1 ?side2 ?side3 ?side4 A7.out).mono ?_); (case side1 => exact zC (Kd.C_below HR0_2.out zB)); (case side2 => exact HC0_2.out); (case side3 => exact zC (Kd.C_below HR1_2.out zB)); (case side4 => exact HC1_2.out); rintro e w49 ⟨rfl, hb⟩; refine ⟨_, rfl, ?_⟩; have n0_ := zK (zg (zM BK357) hb); have n1_ := zK (zg (zM BK358) hb); have n2_ := zK (zp zB hb); clear BK357; clear BK358; clear HB; have BK357 := n0_; have BK358 := n1_; have HB := n2_; clear n0_ n1_ n2_; (try clear hb); (try clear hb2); (try clear hk); (try clear hi)))
    go_ret
    exact ⟨zE, zB⟩
  subst c8
  have H1 : ((laws_eqKernelS.f k l0_3 l1_3).bind fun t362 => (if t362 = true then ((laws_eqIntS.f k l0_4 l1_4).bind fun t363 => (if t363 = true then (some true) else (some false))) else (some false))) = some r := by rw [if_pos rfl] at H; exact H
  clear H
  have H := H1
  clear H1
  replace H := Option.bind_eq_some_iff.mp H
  obtain ⟨t362, A90, H⟩ := H
  replace H : (if t362 = true then ((laws_eqIntS.f k l0_4 l1_4).bind fun t363 => (if t363 = true then (some true) else (some false))) else (some false)) = some r := H
  have A9 := zK A90
  clear A90
  by_cases c10 : t362 = true
  rotate_left
  · replace c10 := Bool.eq_false_iff.mpr c10
    subst c10
    have H1 : (some false) = some r := by rw [if_neg (show ¬ (false = true) by decide)] at H; exact H
    clear H
    have H := H1
    clear H1
    obtain rfl := Option.some.inj H
    go_enter Try.func35, Try.ntmps35
    go_wp2_with (first | ((with_reducible refine gate_dst (N := 2) rfl ?_); refine zJ 2 #[.slice A0_0 l0_0.length c0_0, .slice A0_1 l0_1.length c0_1, .slice A0_2 l0_2.length c0_2, .slice A0_3 l0_3.length c0_3, .slice A0_4 l0_4.length c0_4] 70 ?_; intro gb357 hg w35 hbox hb; have n0_ := zK (zp zB hb); have n1_ := zK (hbox); have n2_ := zK (zI hg zB); have n3_ := zK (zI hg zB); clear HB; have HB := n0_; have BK357 := n1_; have GW357 := n2_; have GE357 := n3_; clear n0_ n1_ n2_ n3_; clear hb hbox hg) | ((with_reducible refine gate_dst (N := 3) rfl ?_); refine zJ 3 #[.slice A1_0 l1_0.length c1_0, .slice A1_1 l1_1.length c1_1, .slice A1_2 l1_2.length c1_2, .slice A1_3 l1_3.length c1_3, .slice A1_4 l1_4.length c1_4] 70 ?_; intro gb358 hg w36 hbox hb; have n0_ := zK (zg (zM BK357) hb); have n1_ := zK (zp zB hb); have n2_ := zK (hbox); have n3_ := zK (zI hg zB); have n4_ := zK (zI hg zB); have n5_ := zK (zH hg (zM BK357)); have n6_ := zK (zG hg (zM BK357)); clear BK357; clear HB; have BK357 := n0_; have HB := n1_; have BK358 := n2_; have GW358 := n3_; have GE358 := n4_; have NB357_358 := n5_; have NB358_357 := n6_; clear n0_ n1_ n2_ n3_ n4_ n5_ n6_; clear hb hbox hg; have hnb37 := NB357_358.out; have hnc37 := NB358_357.out; obtain ⟨hcz38_0, hcz38_1, hcz38_2, hcz38_3, hcz38_4, hfz38_0, hfz38_1, hfz38_2, hfz38_3, hfz38_4⟩ := zc5 BK357; obtain ⟨hcz39_0, hcz39_1, hcz39_2, hcz39_3, hcz39_4, hfz39_0, hfz39_1, hfz39_2, hfz39_3, hfz39_4⟩ := zc5 BK358) | ((with_reducible refine gate_callee (f := 42) rfl ?_); refine zF 9 Try.func42 #[.slice A0_0 l0_0.length c0_0, .slice A1_0 l1_0.length c1_0] rfl zL ?_; (with_reducible refine (laws_eqIntS.calls k _ _ l0_0 _ _ l1_0 true _ ?side1 ?side2 ?side3 ?side4 A3.out).mono ?_); (case side1 => exact zC (Kd.C_below HR0_0.out HB.out)); (case side2 => exact HC0_0.out); (case side3 => exact zC (Kd.C_below HR1_0.out HB.out)); (case side4 => exact HC1_0.out); rintro e w' ⟨rfl, ⟨nd, rfl⟩⟩; refine ⟨_, rfl, ?_⟩) | ((with_reducible refine gate_callee (f := 42) rfl ?_); refine zF 15 Try.func42 #[.slice A0_1 l0_1.length c0_1, .slice A1_1 l1_1.length c1_1] rfl zL ?_; (with_reducible refine (laws_eqIntS.calls k _ _ l0_1 _ _ l1_1 true _ ?side1 ?side2 ?side3 ?side4 A5.out).mono ?_); (case side1 => exact zC (Kd.C_below HR0_1.out zB)); (case side2 => exact HC0_1.out); (case side3 => exact zC (Kd.C_below HR1_1.out zB)); (case side4 => exact HC1_1.out); rintro e w' ⟨rfl, ⟨nd, rfl⟩⟩; refine ⟨_, rfl, ?_⟩) | ((with_reducible refine gate_callee (f := 94) rfl ?_); refine zF 21 Try.func94 #[.slice A0_2 l0_2.length c0_2, .slice A1_2 l1_2.length c1_2] rfl zL ?_; (with_reducible refine (laws_eqFixS.calls k _ _ l0_2 _ _ l1_2 true _ ?side1 ?side2 ?side3 ?side4 A7.out).mono ?_); (case side1 => exact zC (Kd.C_below HR0_2.out zB)); (case side2 => exact HC0_2.out); (case side3 => exact zC (Kd.C_below HR1_2.out zB)); (case side4 => exact HC1_2.out); rintro e w40 ⟨rfl, hb⟩; refine ⟨_, rfl, ?_⟩; have n0_ := zK (zg (zM BK357) hb); have n1_ := zK (zg (zM BK358) hb); have n2_ := zK (zp zB hb); clear BK357; clear BK358; clear HB; have BK357 := n0_; have BK358 := n1_; have HB := n2_; clear n0_ n1_ n2_; (try clear hb); (try clear hb2); (try clear hk); (try clear hi); obtain ⟨hcz41_0, hcz41_1, hcz41_2, hcz41_3, hcz41_4, hfz41_0, hfz41_1, hfz41_2, hfz41_3, hfz41_4⟩ := zc5 BK357; obtain ⟨hcz42_0, hcz42_1, hcz42_2, hcz42_3, hcz42_4, hfz42_0, hfz42_1, hfz42_2, hfz42_3, hfz42_4⟩ := zc5 BK358) | ((with_reducible refine gate_callee (f := 95) rfl ?_); refine zF 27 Try.func95 #[.slice A0_3 l0_3.length c0_3, .slice A1_3 l1_3.length c1_3] rfl zL ?_; (with_reducible refine (laws_eqKernelS.calls k _ _ l0_3 _ _ l1_3 false _ ?side1 ?side2 ?side3 ?side4 A9.out).mono ?_); (case side1 => exact zC (Kd.C_below HR0_3.out HB.out)); (case side2 => exact HC0_3.out); (case side3 => exact zC (Kd.C_below HR1_3.out HB.out)); (case side4 => exact HC1_3.out); rintro e w43 ⟨rfl, hb⟩; refine ⟨_, rfl, ?_⟩; have n0_ := zK (zg (zM BK357) hb); have n1_ := zK (zg (zM BK358) hb); have n2_ := zK (zp zB hb); clear BK357; clear BK358; clear HB; have BK357 := n0_; have BK358 := n1_; have HB := n2_; clear n0_ n1_ n2_; (try clear hb); (try clear hb2); (try clear hk); (try clear hi)))
    go_ret
    exact ⟨zE, zB⟩
  subst c10
  have H1 : ((laws_eqIntS.f k l0_4 l1_4).bind fun t363 => (if t363 = true then (some true) else (some false))) = some r := by rw [if_pos rfl] at H; exact H
  clear H
  have H := H1
  clear H1
  replace H := Option.bind_eq_some_iff.mp H
  obtain ⟨t363, A110, H⟩ := H
  replace H : (if t363 = true then (some true) else (some false)) = some r := H
  have A11 := zK A110
  clear A110
  by_cases c12 : t363 = true
  · subst c12
    have H1 : (some true) = some r := by rw [if_pos rfl] at H; exact H
    clear H
    have H := H1
    clear H1
    obtain rfl := Option.some.inj H
    go_enter Try.func35, Try.ntmps35
    go_wp2_with (first | ((with_reducible refine gate_dst (N := 2) rfl ?_); refine zJ 2 #[.slice A0_0 l0_0.length c0_0, .slice A0_1 l0_1.length c0_1, .slice A0_2 l0_2.length c0_2, .slice A0_3 l0_3.length c0_3, .slice A0_4 l0_4.length c0_4] 70 ?_; intro gb357 hg w13 hbox hb; have n0_ := zK (zp zB hb); have n1_ := zK (hbox); have n2_ := zK (zI hg zB); have n3_ := zK (zI hg zB); clear HB; have HB := n0_; have BK357 := n1_; have GW357 := n2_; have GE357 := n3_; clear n0_ n1_ n2_ n3_; clear hb hbox hg) | ((with_reducible refine gate_dst (N := 3) rfl ?_); refine zJ 3 #[.slice A1_0 l1_0.length c1_0, .slice A1_1 l1_1.length c1_1, .slice A1_2 l1_2.length c1_2, .slice A1_3 l1_3.length c1_3, .slice A1_4 l1_4.length c1_4] 70 ?_; intro gb358 hg w14 hbox hb; have n0_ := zK (zg (zM BK357) hb); have n1_ := zK (zp zB hb); have n2_ := zK (hbox); have n3_ := zK (zI hg zB); have n4_ := zK (zI hg zB); have n5_ := zK (zH hg (zM BK357)); have n6_ := zK (zG hg (zM BK357)); clear BK357; clear HB; have BK357 := n0_; have HB := n1_; have BK358 := n2_; have GW358 := n3_; have GE358 := n4_; have NB357_358 := n5_; have NB358_357 := n6_; clear n0_ n1_ n2_ n3_ n4_ n5_ n6_; clear hb hbox hg; have hnb15 := NB357_358.out; have hnc15 := NB358_357.out; obtain ⟨hcz16_0, hcz16_1, hcz16_2, hcz16_3, hcz16_4, hfz16_0, hfz16_1, hfz16_2, hfz16_3, hfz16_4⟩ := zc5 BK357; obtain ⟨hcz17_0, hcz17_1, hcz17_2, hcz17_3, hcz17_4, hfz17_0, hfz17_1, hfz17_2, hfz17_3, hfz17_4⟩ := zc5 BK358) | ((with_reducible refine gate_callee (f := 42) rfl ?_); refine zF 9 Try.func42 #[.slice A0_0 l0_0.length c0_0, .slice A1_0 l1_0.length c1_0] rfl zL ?_; (with_reducible refine (laws_eqIntS.calls k _ _ l0_0 _ _ l1_0 true _ ?side1 ?side2 ?side3 ?side4 A3.out).mono ?_); (case side1 => exact zC (Kd.C_below HR0_0.out HB.out)); (case side2 => exact HC0_0.out); (case side3 => exact zC (Kd.C_below HR1_0.out HB.out)); (case side4 => exact HC1_0.out); rintro e w' ⟨rfl, ⟨nd, rfl⟩⟩; refine ⟨_, rfl, ?_⟩) | ((with_reducible refine gate_callee (f := 42) rfl ?_); refine zF 15 Try.func42 #[.slice A0_1 l0_1.length c0_1, .slice A1_1 l1_1.length c1_1] rfl zL ?_; (with_reducible refine (laws_eqIntS.calls k _ _ l0_1 _ _ l1_1 true _ ?side1 ?side2 ?side3 ?side4 A5.out).mono ?_); (case side1 => exact zC (Kd.C_below HR0_1.out zB)); (case side2 => exact HC0_1.out); (case side3 => exact zC (Kd.C_below HR1_1.out zB)); (case side4 => exact HC1_1.out); rintro e w' ⟨rfl, ⟨nd, rfl⟩⟩; refine ⟨_, rfl, ?_⟩) | ((with_reducible refine gate_callee (f := 94) rfl ?_); refine zF 21 Try.func94 #[.slice A0_2 l0_2.length c0_2, .slice A1_2 l1_2.length c1_2] rfl zL ?_; (with_reducible refine (laws_eqFixS.calls k _ _ l0_2 _ _ l1_2 true _ ?side1 ?side2 ?side3 ?side4 A7.out).mono ?_); (case side1 => exact zC (Kd.C_below HR0_2.out zB)); (case side2 => exact HC0_2.out); (case side3 => exact zC (Kd.C_below HR1_2.out zB)); (case side4 => exact HC1_2.out); rintro e w18 ⟨rfl, hb⟩; refine ⟨_, rfl, ?_⟩; have n0_ := zK (zg (zM BK357) hb); have n1_ := zK (zg (zM BK358) hb); have n2_ := zK (zp zB hb); clear BK357; clear BK358; clear HB; have BK357 := n0_; have BK358 := n1_; have HB := n2_; clear n0_ n1_ n2_; (try clear hb); (try clear hb2); (try clear hk); (try clear hi); obtain ⟨hcz19_0, hcz19_1, hcz19_2, hcz19_3, hcz19_4, hfz19_0, hfz19_1, hfz19_2, hfz19_3, hfz19_4⟩ := zc5 BK357; obtain ⟨hcz20_0, hcz20_1, hcz20_2, hcz20_3, hcz20_4, hfz20_0, hfz20_1, hfz20_2, hfz20_3, hfz20_4⟩ := zc5 BK358) | ((with_reducible refine gate_callee (f := 95) rfl ?_); refine zF 27 Try.func95 #[.slice A0_3 l0_3.length c0_3, .slice A1_3 l1_3.length c1_3] rfl zL ?_; (with_reducible refine (laws_eqKernelS.calls k _ _ l0_3 _ _ l1_3 true _ ?side1 ?side2 ?side3 ?side4 A9.out).mono ?_); (case side1 => exact zC (Kd.C_below HR0_3.out HB.out)); (case side2 => exact HC0_3.out); (case side3 => exact zC (Kd.C_below HR1_3.out HB.out)); (case side4 => exact HC1_3.out); rintro e w21 ⟨rfl, hb⟩; refine ⟨_, rfl, ?_⟩; have n0_ := zK (zg (zM BK357) hb); have n1_ := zK (zg (zM BK358) hb); have n2_ := zK (zp zB hb); clear BK357; clear BK358; clear HB; have BK357 := n0_; have BK358 := n1_; have HB := n2_; clear n0_ n1_ n2_; (try clear hb); (try clear hb2); (try clear hk); (try clear hi); obtain ⟨hcz22_0, hcz22_1, hcz22_2, hcz22_3, hcz22_4, hfz22_0, hfz22_1, hfz22_2, hfz22_3, hfz22_4⟩ := zc5 BK357; obtain ⟨hcz23_0, hcz23_1, hcz23_2, hcz23_3, hcz23_4, hfz23_0, hfz23_1, hfz23_2, hfz23_3, hfz23_4⟩ := zc5 BK358) | ((with_reducible refine gate_callee (f := 42) rfl ?_); refine zF 33 Try.func42 #[.slice A0_4 l0_4.length c0_4, .slice A1_4 l1_4.length c1_4] rfl zL ?_; (with_reducible refine (laws_eqIntS.calls k _ _ l0_4 _ _ l1_4 true _ ?side1 ?side2 ?side3 ?side4 A11.out).mono ?_); (case side1 => exact zC (Kd.C_below HR0_4.out HB.out)); (case side2 => exact HC0_4.out); (case side3 => exact zC (Kd.C_below HR1_4.out HB.out)); (case side4 => exact HC1_4.out); rintro e w' ⟨rfl, ⟨nd, rfl⟩⟩; refine ⟨_, rfl, ?_⟩))
    go_ret
    exact ⟨zE, zB⟩
  replace c12 := Bool.eq_false_iff.mpr c12
  subst c12
  have H1 : (some false) = some r := by rw [if_neg (show ¬ (false = true) by decide)] at H; exact H
  clear H
  have H := H1
  clear H1
  obtain rfl := Option.some.inj H
  go_enter Try.func35, Try.ntmps35
  go_wp2_with (first | ((with_reducible refine gate_dst (N := 2) rfl ?_); refine zJ 2 #[.slice A0_0 l0_0.length c0_0, .slice A0_1 l0_1.length c0_1, .slice A0_2 l0_2.length c0_2, .slice A0_3 l0_3.length c0_3, .slice A0_4 l0_4.length c0_4] 70 ?_; intro gb357 hg w24 hbox hb; have n0_ := zK (zp zB hb); have n1_ := zK (hbox); have n2_ := zK (zI hg zB); have n3_ := zK (zI hg zB); clear HB; have HB := n0_; have BK357 := n1_; have GW357 := n2_; have GE357 := n3_; clear n0_ n1_ n2_ n3_; clear hb hbox hg) | ((with_reducible refine gate_dst (N := 3) rfl ?_); refine zJ 3 #[.slice A1_0 l1_0.length c1_0, .slice A1_1 l1_1.length c1_1, .slice A1_2 l1_2.length c1_2, .slice A1_3 l1_3.length c1_3, .slice A1_4 l1_4.length c1_4] 70 ?_; intro gb358 hg w25 hbox hb; have n0_ := zK (zg (zM BK357) hb); have n1_ := zK (zp zB hb); have n2_ := zK (hbox); have n3_ := zK (zI hg zB); have n4_ := zK (zI hg zB); have n5_ := zK (zH hg (zM BK357)); have n6_ := zK (zG hg (zM BK357)); clear BK357; clear HB; have BK357 := n0_; have HB := n1_; have BK358 := n2_; have GW358 := n3_; have GE358 := n4_; have NB357_358 := n5_; have NB358_357 := n6_; clear n0_ n1_ n2_ n3_ n4_ n5_ n6_; clear hb hbox hg; have hnb26 := NB357_358.out; have hnc26 := NB358_357.out; obtain ⟨hcz27_0, hcz27_1, hcz27_2, hcz27_3, hcz27_4, hfz27_0, hfz27_1, hfz27_2, hfz27_3, hfz27_4⟩ := zc5 BK357; obtain ⟨hcz28_0, hcz28_1, hcz28_2, hcz28_3, hcz28_4, hfz28_0, hfz28_1, hfz28_2, hfz28_3, hfz28_4⟩ := zc5 BK358) | ((with_reducible refine gate_callee (f := 42) rfl ?_); refine zF 9 Try.func42 #[.slice A0_0 l0_0.length c0_0, .slice A1_0 l1_0.length c1_0] rfl zL ?_; (with_reducible refine (laws_eqIntS.calls k _ _ l0_0 _ _ l1_0 true _ ?side1 ?side2 ?side3 ?side4 A3.out).mono ?_); (case side1 => exact zC (Kd.C_below HR0_0.out HB.out)); (case side2 => exact HC0_0.out); (case side3 => exact zC (Kd.C_below HR1_0.out HB.out)); (case side4 => exact HC1_0.out); rintro e w' ⟨rfl, ⟨nd, rfl⟩⟩; refine ⟨_, rfl, ?_⟩) | ((with_reducible refine gate_callee (f := 42) rfl ?_); refine zF 15 Try.func42 #[.slice A0_1 l0_1.length c0_1, .slice A1_1 l1_1.length c1_1] rfl zL ?_; (with_reducible refine (laws_eqIntS.calls k _ _ l0_1 _ _ l1_1 true _ ?side1 ?side2 ?side3 ?side4 A5.out).mono ?_); (case side1 => exact zC (Kd.C_below HR0_1.out zB)); (case side2 => exact HC0_1.out); (case side3 => exact zC (Kd.C_below HR1_1.out zB)); (case side4 => exact HC1_1.out); rintro e w' ⟨rfl, ⟨nd, rfl⟩⟩; refine ⟨_, rfl, ?_⟩) | ((with_reducible refine gate_callee (f := 94) rfl ?_); refine zF 21 Try.func94 #[.slice A0_2 l0_2.length c0_2, .slice A1_2 l1_2.length c1_2] rfl zL ?_; (with_reducible refine (laws_eqFixS.calls k _ _ l0_2 _ _ l1_2 true _ ?side1 ?side2 ?side3 ?side4 A7.out).mono ?_); (case side1 => exact zC (Kd.C_below HR0_2.out zB)); (case side2 => exact HC0_2.out); (case side3 => exact zC (Kd.C_below HR1_2.out zB)); (case side4 => exact HC1_2.out); rintro e w29 ⟨rfl, hb⟩; refine ⟨_, rfl, ?_⟩; have n0_ := zK (zg (zM BK357) hb); have n1_ := zK (zg (zM BK358) hb); have n2_ := zK (zp zB hb); clear BK357; clear BK358; clear HB; have BK357 := n0_; have BK358 := n1_; have HB := n2_; clear n0_ n1_ n2_; (try clear hb); (try clear hb2); (try clear hk); (try clear hi); obtain ⟨hcz30_0, hcz30_1, hcz30_2, hcz30_3, hcz30_4, hfz30_0, hfz30_1, hfz30_2, hfz30_3, hfz30_4⟩ := zc5 BK357; obtain ⟨hcz31_0, hcz31_1, hcz31_2, hcz31_3, hcz31_4, hfz31_0, hfz31_1, hfz31_2, hfz31_3, hfz31_4⟩ := zc5 BK358) | ((with_reducible refine gate_callee (f := 95) rfl ?_); refine zF 27 Try.func95 #[.slice A0_3 l0_3.length c0_3, .slice A1_3 l1_3.length c1_3] rfl zL ?_; (with_reducible refine (laws_eqKernelS.calls k _ _ l0_3 _ _ l1_3 true _ ?side1 ?side2 ?side3 ?side4 A9.out).mono ?_); (case side1 => exact zC (Kd.C_below HR0_3.out HB.out)); (case side2 => exact HC0_3.out); (case side3 => exact zC (Kd.C_below HR1_3.out HB.out)); (case side4 => exact HC1_3.out); rintro e w32 ⟨rfl, hb⟩; refine ⟨_, rfl, ?_⟩; have n0_ := zK (zg (zM BK357) hb); have n1_ := zK (zg (zM BK358) hb); have n2_ := zK (zp zB hb); clear BK357; clear BK358; clear HB; have BK357 := n0_; have BK358 := n1_; have HB := n2_; clear n0_ n1_ n2_; (try clear hb); (try clear hb2); (try clear hk); (try clear hi); obtain ⟨hcz33_0, hcz33_1, hcz33_2, hcz33_3, hcz33_4, hfz33_0, hfz33_1, hfz33_2, hfz33_3, hfz33_4⟩ := zc5 BK357; obtain ⟨hcz34_0, hcz34_1, hcz34_2, hcz34_3, hcz34_4, hfz34_0, hfz34_1, hfz34_2, hfz34_3, hfz34_4⟩ := zc5 BK358) | ((with_reducible refine gate_callee (f := 42) rfl ?_); refine zF 33 Try.func42 #[.slice A0_4 l0_4.length c0_4, .slice A1_4 l1_4.length c1_4] rfl zL ?_; (with_reducible refine (laws_eqIntS.calls k _ _ l0_4 _ _ l1_4 false _ ?side1 ?side2 ?side3 ?side4 A11.out).mono ?_); (case side1 => exact zC (Kd.C_below HR0_4.out HB.out)); (case side2 => exact HC0_4.out); (case side3 => exact zC (Kd.C_below HR1_4.out HB.out)); (case side4 => exact HC1_4.out); rintro e w' ⟨rfl, ⟨nd, rfl⟩⟩; refine ⟨_, rfl, ?_⟩))
  go_ret
  exact ⟨zE, zB⟩

end Go.Proofs.Ytkfagiojcjnfkaa.PFnExactNestOk
