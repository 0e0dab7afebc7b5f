-- Printed out of the translation by this session's own turned copy of a printer; Lean checks it.
import Derived.Test.YtkfagiojcjnfkaaPFnExactNestOkx0
import Derived.Test.YtkfagiojcjnfkaaPFnExactNestOkx1
import Derived.Test.YtkfagiojcjnfkaaPFnExactNestOkx6
import Derived.Test.YtkfagiojcjnfkaaPFnExactNestOkx8
import Derived.Test.YtkfagiojcjnfkaaPFnExactNestOkx14
import Derived.Test.YtkfagiojcjnfkaaPFnExactNestOkx17
namespace Go.Proofs.Ytkfagiojcjnfkaa.PFnExactNestOk
open Go.RowKit Go.Proofs.YtkfagiojcjnfkaaW.PrintWords Go.Proofs.YtkfagiojcjnfkaaW.PrintLast Go.Proofs.YtkfagiojcjnfkaaW.PrintMore
attribute [local go_sem] max2_int min2_int max_two min_two max_three min_three max_four min_four   -- for this text's walks alone
set_option linter.unusedVariables false
set_option linter.unusedSimpArgs false

/-! ### laws_FnExactNestOk: function 5 -/
def laws_FnExactNestOk.f (k : Nat) (l0_0 : List Int) (l0_1 : List Int) (l0_2 : List (S166)) (l0_3 : List (S172)) (l0_4 : List Int) : Option (Bool) := (laws_szNest.f k l0_0 l0_1 l0_2 l0_3 l0_4 1048576).bind fun t365 => (if t365 < 0 then (some true) else ((laws_toNest.f k l0_0 l0_1 l0_2 l0_3 l0_4).bind fun bt366 => ((spec_NestOk.f k bt366.1 bt366.2.1 bt366.2.2.1 bt366.2.2.2.1 bt366.2.2.2.2).bind fun t381 => ((laws_toNest.f k l0_0 l0_1 l0_2 l0_3 l0_4).bind fun bt382 => ((impl_NestOk.f k bt382.1 bt382.2.1 bt382.2.2.1 bt382.2.2.2.1 bt382.2.2.2.2).bind fun t398 => (if (t398 != t381) = true then (some false) else ((laws_toNest.f k l0_0 l0_1 l0_2 l0_3 l0_4).bind fun bt399 => ((laws_eqNest.f k bt382.1 bt382.2.1 bt382.2.2.1 bt382.2.2.2.1 bt382.2.2.2.2 bt399.1 bt399.2.1 bt399.2.2.1 bt399.2.2.2.1 bt399.2.2.2.2).bind fun t414 => (if t414 = true then (some true) else (some false))))))))))
theorem laws_FnExactNestOk.mono : ∀ a0 a1 a2 a3 a4 k, LeO (laws_FnExactNestOk.f k a0 a1 a2 a3 a4) (laws_FnExactNestOk.f (k + 1) a0 a1 a2 a3 a4) := by
  intro a0 a1 a2 a3 a4 k
  unfold laws_FnExactNestOk.f
  repeat' first
      | (with_reducible exact impl_NestOk.mono _ _ _ _ _ _)
      | (with_reducible exact laws_eqNest.mono _ _ _ _ _ _ _ _ _ _ _)
      | (with_reducible exact laws_szNest.mono _ _ _ _ _ _ _)
      | (with_reducible exact laws_toNest.mono _ _ _ _ _ _)
      | (with_reducible exact spec_NestOk.mono _ _ _ _ _ _)
      | (with_reducible exact LeO.refl _)
      | (with_reducible exact LeO.none _)
      | (with_reducible refine LeO.ite ?_ ?_)
      | (with_reducible refine LeO.bind ?_ (fun _ => ?_))
      | exact impl_NestOk.mono _ _ _ _ _ _
      | exact laws_eqNest.mono _ _ _ _ _ _ _ _ _ _ _
      | exact laws_szNest.mono _ _ _ _ _ _ _
      | exact laws_toNest.mono _ _ _ _ _ _
      | exact spec_NestOk.mono _ _ _ _ _ _
      | exact LeO.none _
      | refine LeO.ite ?_ ?_
      | refine LeO.bind ?_ (fun _ => ?_)
set_option maxHeartbeats 8000000 in
set_option maxRecDepth 100000 in
theorem laws_FnExactNestOk.calls (k : Nat) (A0_0 : Option Addr) (c0_0 : Nat) (l0_0 : List Int) (A0_1 : Option Addr) (c0_1 : Nat) (l0_1 : List Int) (A0_2 : Option Addr) (c0_2 : Nat) (l0_2 : List (S166)) (A0_3 : Option Addr) (c0_3 : Nat) (l0_3 : List (S172)) (A0_4 : Option Addr) (c0_4 : Nat) (l0_4 : List Int) (r : Bool) (w : World) (hr0_0 : Kd.C (Kd.int .i64) w A0_0 l0_0.length l0_0) (hc0_0 : l0_0.length ≤ c0_0) (hr0_1 : Kd.C (Kd.int .i64) w A0_1 l0_1.length l0_1) (hc0_1 : l0_1.length ≤ c0_1) (hr0_2 : Kd.C k166 w A0_2 l0_2.length l0_2) (hc0_2 : l0_2.length ≤ c0_2) (hr0_3 : Kd.C k172 w A0_3 l0_3.length l0_3) (hc0_3 : l0_3.length ≤ c0_3) (hr0_4 : Kd.C (Kd.int .i64) w A0_4 l0_4.length l0_4) (hc0_4 : l0_4.length ≤ c0_4) (h : laws_FnExactNestOk.f k l0_0 l0_1 l0_2 l0_3 l0_4 = some r) :
    Calls Try.prog 5 #[.agg #[.slice A0_0 l0_0.length c0_0, .slice A0_1 l0_1.length c0_1, .slice A0_2 l0_2.length c0_2, .slice A0_3 l0_3.length c0_3, .slice A0_4 l0_4.length c0_4]] w fun e w' => e = .returned (.bool r) ∧ Below w.heap.size w w' := by
  have hu64 := Try.underlying64
  have hu70 := Try.underlying70
  have HR0_0 := zK hr0_0
  have HC0_0 := zK hc0_0
  clear hr0_0 hc0_0
  have HR0_1 := zK hr0_1
  have HC0_1 := zK hc0_1
  clear hr0_1 hc0_1
  have HR0_2 := zK hr0_2
  have HC0_2 := zK hc0_2
  clear hr0_2 hc0_2
  have HR0_3 := zK hr0_3
  have HC0_3 := zK hc0_3
  clear hr0_3 hc0_3
  have HR0_4 := zK hr0_4
  have HC0_4 := zK hc0_4
  clear hr0_4 hc0_4
  have HB := zK (Below.refl w.heap.size w)
  have H : ((laws_szNest.f k l0_0 l0_1 l0_2 l0_3 l0_4 1048576).bind fun t365 => (if t365 < 0 then (some true) else ((laws_toNest.f k l0_0 l0_1 l0_2 l0_3 l0_4).bind fun bt366 => ((spec_NestOk.f k bt366.1 bt366.2.1 bt366.2.2.1 bt366.2.2.2.1 bt366.2.2.2.2).bind fun t381 => ((laws_toNest.f k l0_0 l0_1 l0_2 l0_3 l0_4).bind fun bt382 => ((impl_NestOk.f k bt382.1 bt382.2.1 bt382.2.2.1 bt382.2.2.2.1 bt382.2.2.2.2).bind fun t398 => (if (t398 != t381) = true then (some false) else ((laws_toNest.f k l0_0 l0_1 l0_2 l0_3 l0_4).bind fun bt399 => ((laws_eqNest.f k bt382.1 bt382.2.1 bt382.2.2.1 bt382.2.2.2.1 bt382.2.2.2.2 bt399.1 bt399.2.1 bt399.2.2.1 bt399.2.2.2.1 bt399.2.2.2.2).bind fun t414 => (if t414 = true then (some true) else (some false))))))))))) = some r := h
  clear h
  replace H := Option.bind_eq_some_iff.mp H
  obtain ⟨t365, A20, H⟩ := H
  replace H : (if t365 < 0 then (some true) else ((laws_toNest.f k l0_0 l0_1 l0_2 l0_3 l0_4).bind fun bt366 => ((spec_NestOk.f k bt366.1 bt366.2.1 bt366.2.2.1 bt366.2.2.2.1 bt366.2.2.2.2).bind fun t381 => ((laws_toNest.f k l0_0 l0_1 l0_2 l0_3 l0_4).bind fun bt382 => ((impl_NestOk.f k bt382.1 bt382.2.1 bt382.2.2.1 bt382.2.2.2.1 bt382.2.2.2.2).bind fun t398 => (if (t398 != t381) = true then (some false) else ((laws_toNest.f k l0_0 l0_1 l0_2 l0_3 l0_4).bind fun bt399 => ((laws_eqNest.f k bt382.1 bt382.2.1 bt382.2.2.1 bt382.2.2.2.1 bt382.2.2.2.2 bt399.1 bt399.2.1 bt399.2.2.1 bt399.2.2.2.1 bt399.2.2.2.2).bind fun t414 => (if t414 = true then (some true) else (some false)))))))))) = some r := H
  have A2 := zK A20
  clear A20
  by_cases c3 : t365 < 0
  · rw [if_pos c3] at H
    have c3b0 : decide (t365 < 0) = true := decide_eq_true c3
    clear c3
    obtain rfl := Option.some.inj H
    go_enter Try.func5, Try.ntmps5
    go_wp2_with (first | ((with_reducible refine gate_dst (N := 1) rfl ?_); refine zJ 1 #[.slice A0_0 l0_0.length c0_0, .slice A0_1 l0_1.length c0_1, .slice A0_2 l0_2.length c0_2, .slice A0_3 l0_3.length c0_3, .slice A0_4 l0_4.length c0_4] 64 ?_; intro gb364 hg w4 hbox hb; have n0_ := zK (zp zB hb); have n1_ := zK (hbox); have n2_ := zK (zI hg zB); have n3_ := zK (zI hg zB); clear HB; have HB := n0_; have BK364 := n1_; have GW364 := n2_; have GE364 := n3_; clear n0_ n1_ n2_ n3_; clear hb hbox hg; obtain ⟨hcz5_0, hcz5_1, hcz5_2, hcz5_3, hcz5_4, hfz5_0, hfz5_1, hfz5_2, hfz5_3, hfz5_4⟩ := zc5 BK364) | ((with_reducible refine gate_callee (f := 31) rfl ?_); refine zF 9 Try.func31 #[.agg #[.slice A0_0 l0_0.length c0_0, .slice A0_1 l0_1.length c0_1, .slice A0_2 l0_2.length c0_2, .slice A0_3 l0_3.length c0_3, .slice A0_4 l0_4.length c0_4], .int .i64 1048576] rfl zL ?_; (with_reducible refine (laws_szNest.calls k _ _ l0_0 _ _ l0_1 _ _ l0_2 _ _ l0_3 _ _ l0_4 1048576 t365 _ ?side1 ?side2 ?side3 ?side4 ?side5 ?side6 ?side7 ?side8 ?side9 ?side10 A2.out).mono ?_); (case side1 => exact zC (Kd.C_below HR0_0.out HB.out)); (case side2 => exact HC0_0.out); (case side3 => exact zC (Kd.C_below HR0_1.out HB.out)); (case side4 => exact HC0_1.out); (case side5 => exact zC (Kd.C_below HR0_2.out HB.out)); (case side6 => exact HC0_2.out); (case side7 => exact zC (Kd.C_below HR0_3.out HB.out)); (case side8 => exact HC0_3.out); (case side9 => exact zC (Kd.C_below HR0_4.out HB.out)); (case side10 => exact HC0_4.out); rintro e w6 ⟨rfl, hb⟩; refine ⟨_, rfl, ?_⟩; have n0_ := zK (zg (zM BK364) hb); have n1_ := zK (zp zB hb); clear BK364; clear HB; have BK364 := n0_; have HB := n1_; clear n0_ n1_; (try clear hb); (try clear hb2); (try clear hk); (try clear hi)))
    go_ret
    exact ⟨zE, zB⟩
  rw [if_neg c3] at H
  have c3b0 : decide (t365 < 0) = false := decide_eq_false c3
  clear c3
  replace H := Option.bind_eq_some_iff.mp H
  obtain ⟨⟨t366, t369, t372, t375, t378⟩, A70, H⟩ := H
  replace H : ((spec_NestOk.f k t366 t369 t372 t375 t378).bind fun t381 => ((laws_toNest.f k l0_0 l0_1 l0_2 l0_3 l0_4).bind fun bt382 => ((impl_NestOk.f k bt382.1 bt382.2.1 bt382.2.2.1 bt382.2.2.2.1 bt382.2.2.2.2).bind fun t398 => (if (t398 != t381) = true then (some false) else ((laws_toNest.f k l0_0 l0_1 l0_2 l0_3 l0_4).bind fun bt399 => ((laws_eqNest.f k bt382.1 bt382.2.1 bt382.2.2.1 bt382.2.2.2.1 bt382.2.2.2.2 bt399.1 bt399.2.1 bt399.2.2.1 bt399.2.2.2.1 bt399.2.2.2.2).bind fun t414 => (if t414 = true then (some true) else (some false)))))))) = some r := H
  have A7 := zK A70
  clear A70
  replace H := Option.bind_eq_some_iff.mp H
  obtain ⟨t381, A80, H⟩ := H
  replace H : ((laws_toNest.f k l0_0 l0_1 l0_2 l0_3 l0_4).bind fun bt382 => ((impl_NestOk.f k bt382.1 bt382.2.1 bt382.2.2.1 bt382.2.2.2.1 bt382.2.2.2.2).bind fun t398 => (if (t398 != t381) = true then (some false) else ((laws_toNest.f k l0_0 l0_1 l0_2 l0_3 l0_4).bind fun bt399 => ((laws_eqNest.f k bt382.1 bt382.2.1 bt382.2.2.1 bt382.2.2.2.1 bt382.2.2.2.2 bt399.1 bt399.2.1 bt399.2.2.1 bt399.2.2.2.1 bt399.2.2.2.2).bind fun t414 => (if t414 = true then (some true) else (some false))))))) = some r := H
  have A8 := zK A80
  clear A80
  replace H := Option.bind_eq_some_iff.mp H
  obtain ⟨⟨t382, t385, t388, t391, t394⟩, A90, H⟩ := H
  replace H : ((impl_NestOk.f k t382 t385 t388 t391 t394).bind fun t398 => (if (t398 != t381) = true then (some false) else ((laws_toNest.f k l0_0 l0_1 l0_2 l0_3 l0_4).bind fun bt399 => ((laws_eqNest.f k t382 t385 t388 t391 t394 bt399.1 bt399.2.1 bt399.2.2.1 bt399.2.2.2.1 bt399.2.2.2.2).bind fun t414 => (if t414 = true then (some true) else (some false)))))) = some r := H
  have A9 := zK A90
  clear A90
  replace H := Option.bind_eq_some_iff.mp H
  obtain ⟨t398, A100, H⟩ := H
  replace H : (if (t398 != t381) = true then (some false) else ((laws_toNest.f k l0_0 l0_1 l0_2 l0_3 l0_4).bind fun bt399 => ((laws_eqNest.f k t382 t385 t388 t391 t394 bt399.1 bt399.2.1 bt399.2.2.1 bt399.2.2.2.1 bt399.2.2.2.2).bind fun t414 => (if t414 = true then (some true) else (some false))))) = some r := H
  have A10 := zK A100
  clear A100
  by_cases c11 : (t398 != t381) = true
  · rw [if_pos c11] at H
    have c11b0 : (t398 != t381) = true := c11
    (try (have c11b1 : decide (t398 = t381) = false := by simpa using c11))
    (try (have c11b2 : (t398 == t381) = false := by simpa using c11))
    (try (have c11b3 : ¬ (t398 = t381) := by simpa using c11))
    clear c11
    obtain rfl := Option.some.inj H
    go_enter Try.func5, Try.ntmps5
    go_wp2_with (first | ((with_reducible refine gate_dst (N := 1) rfl ?_); refine zJ 1 #[.slice A0_0 l0_0.length c0_0, .slice A0_1 l0_1.length c0_1, .slice A0_2 l0_2.length c0_2, .slice A0_3 l0_3.length c0_3, .slice A0_4 l0_4.length c0_4] 64 ?_; intro gb364 hg w12 hbox hb; have n0_ := zK (zp zB hb); have n1_ := zK (hbox); have n2_ := zK (zI hg zB); have n3_ := zK (zI hg zB); clear HB; have HB := n0_; have BK364 := n1_; have GW364 := n2_; have GE364 := n3_; clear n0_ n1_ n2_ n3_; clear hb hbox hg; obtain ⟨hcz13_0, hcz13_1, hcz13_2, hcz13_3, hcz13_4, hfz13_0, hfz13_1, hfz13_2, hfz13_3, hfz13_4⟩ := zc5 BK364) | ((with_reducible refine gate_callee (f := 31) rfl ?_); refine zF 9 Try.func31 #[.agg #[.slice A0_0 l0_0.length c0_0, .slice A0_1 l0_1.length c0_1, .slice A0_2 l0_2.length c0_2, .slice A0_3 l0_3.length c0_3, .slice A0_4 l0_4.length c0_4], .int .i64 1048576] rfl zL ?_; (with_reducible refine (laws_szNest.calls k _ _ l0_0 _ _ l0_1 _ _ l0_2 _ _ l0_3 _ _ l0_4 1048576 t365 _ ?side1 ?side2 ?side3 ?side4 ?side5 ?side6 ?side7 ?side8 ?side9 ?side10 A2.out).mono ?_); (case side1 => exact zC (Kd.C_below HR0_0.out HB.out)); (case side2 => exact HC0_0.out); (case side3 => exact zC (Kd.C_below HR0_1.out HB.out)); (case side4 => exact HC0_1.out); (case side5 => exact zC (Kd.C_below HR0_2.out HB.out)); (case side6 => exact HC0_2.out); (case side7 => exact zC (Kd.C_below HR0_3.out HB.out)); (case side8 => exact HC0_3.out); (case side9 => exact zC (Kd.C_below HR0_4.out HB.out)); (case side10 => exact HC0_4.out); rintro e w14 ⟨rfl, hb⟩; refine ⟨_, rfl, ?_⟩; have n0_ := zK (zg (zM BK364) hb); have n1_ := zK (zp zB hb); clear BK364; clear HB; have BK364 := n0_; have HB := n1_; clear n0_ n1_; (try clear hb); (try clear hb2); (try clear hk); (try clear hi); obtain ⟨hcz15_0, hcz15_1, hcz15_2, hcz15_3, hcz15_4, hfz15_0, hfz15_1, hfz15_2, hfz15_3, hfz15_4⟩ := zc5 BK364) | ((with_reducible refine gate_callee (f := 33) rfl ?_); refine zF 13 Try.func33 #[.agg #[.slice A0_0 l0_0.length c0_0, .slice A0_1 l0_1.length c0_1, .slice A0_2 l0_2.length c0_2, .slice A0_3 l0_3.length c0_3, .slice A0_4 l0_4.length c0_4]] rfl zL ?_; (with_reducible refine (laws_toNest.calls k _ _ l0_0 _ _ l0_1 _ _ l0_2 _ _ l0_3 _ _ l0_4 t366 t369 t372 t375 t378 _ ?side1 ?side2 ?side3 ?side4 ?side5 ?side6 ?side7 ?side8 ?side9 ?side10 A7.out).mono ?_); (case side1 => exact zC (Kd.C_below HR0_0.out HB.out)); (case side2 => exact HC0_0.out); (case side3 => exact zC (Kd.C_below HR0_1.out HB.out)); (case side4 => exact HC0_1.out); (case side5 => exact zC (Kd.C_below HR0_2.out HB.out)); (case side6 => exact HC0_2.out); (case side7 => exact zC (Kd.C_below HR0_3.out HB.out)); (case side8 => exact HC0_3.out); (case side9 => exact zC (Kd.C_below HR0_4.out HB.out)); (case side10 => exact HC0_4.out); rintro e w16 ⟨v367, v370, v373, v376, v379, rfl, ho0, ho1, ho2, ho3, ho4, hb⟩; refine ⟨_, rfl, ?_⟩; have n0_ := zK (Kd.R_lower ho0 (zz zB)); have n1_ := zK (Kd.R_lower ho1 (zz zB)); have n2_ := zK (Kd.S_lower ho2 (zz zB)); have n3_ := zK (Kd.R_lower ho3 (zz zB)); have n4_ := zK (Kd.R_lower ho4 (zz zB)); have n5_ := zK (zg (zM BK364) hb); have n6_ := zK (zp zB hb); clear BK364; clear HB; have HO368 := n0_; have HO371 := n1_; have HO374 := n2_; have HO377 := n3_; have HO380 := n4_; have BK364 := n5_; have HB := n6_; clear n0_ n1_ n2_ n3_ n4_ n5_ n6_; (try clear hb); (try clear hb2); (try clear hk); (try clear hi); (try clear ho0); (try clear ho1); (try clear ho2); (try clear ho3); (try clear ho4); obtain ⟨Ao17, co17, eo17⟩ := Kd.R_slice HO368.out; subst eo17; obtain ⟨Ao18, co18, eo18⟩ := Kd.R_slice HO371.out; subst eo18; obtain ⟨Ao19, co19, eo19⟩ := Kd.S_slice HO374.out; subst eo19; obtain ⟨Ao20, co20, eo20⟩ := Kd.R_slice HO377.out; subst eo20; obtain ⟨Ao21, co21, eo21⟩ := Kd.R_slice HO380.out; subst eo21) | ((with_reducible refine gate_callee (f := 32) rfl ?_); refine zF 14 Try.func32 #[.agg #[.slice Ao17 t366.length co17, .slice Ao18 t369.length co18, .slice Ao19 t372.length co19, .slice Ao20 t375.length co20, .slice Ao21 t378.length co21]] rfl zL ?_; (with_reducible refine (spec_NestOk.calls k _ _ t366 _ _ t369 _ _ t372 _ _ t375 _ _ t378 t381 _ ?side1 ?side2 ?side3 ?side4 ?side5 ?side6 ?side7 ?side8 ?side9 ?side10 A8.out).mono ?_); (case side1 => exact zC (Kd.R_reads' HO368.out).2.2); (case side2 => exact (Kd.R_reads' HO368.out).2.1); (case side3 => exact zC (Kd.R_reads' HO371.out).2.2); (case side4 => exact (Kd.R_reads' HO371.out).2.1); (case side5 => exact zC (Kd.S_reads' HO374.out).2.2); (case side6 => exact (Kd.S_reads' HO374.out).2.1); (case side7 => exact zC (Kd.R_reads' HO377.out).2.2); (case side8 => exact (Kd.R_reads' HO377.out).2.1); (case side9 => exact zC (Kd.R_reads' HO380.out).2.2); (case side10 => exact (Kd.R_reads' HO380.out).2.1); rintro e w22 ⟨rfl, hb⟩; refine ⟨_, rfl, ?_⟩; have n0_ := zK (Kd.R_below (zkR HO368) hb); have n1_ := zK (Kd.R_below (zkR HO371) hb); have n2_ := zK (Kd.S_below (zkS HO374) hb); have n3_ := zK (Kd.R_below (zkR HO377) hb); have n4_ := zK (Kd.R_below (zkR HO380) hb); have n5_ := zK (zg (zM BK364) hb); have n6_ := zK (zp zB hb); clear HO368; clear HO371; clear HO374; clear HO377; clear HO380; clear BK364; clear HB; have HO368 := n0_; have HO371 := n1_; have HO374 := n2_; have HO377 := n3_; have HO380 := n4_; have BK364 := n5_; have HB := n6_; clear n0_ n1_ n2_ n3_ n4_ n5_ n6_; (try clear hb); (try clear hb2); (try clear hk); (try clear hi); obtain ⟨hcz23_0, hcz23_1, hcz23_2, hcz23_3, hcz23_4, hfz23_0, hfz23_1, hfz23_2, hfz23_3, hfz23_4⟩ := zc5 BK364) | ((with_reducible refine gate_callee (f := 33) rfl ?_); refine zF 16 Try.func33 #[.agg #[.slice A0_0 l0_0.length c0_0, .slice A0_1 l0_1.length c0_1, .slice A0_2 l0_2.length c0_2, .slice A0_3 l0_3.length c0_3, .slice A0_4 l0_4.length c0_4]] rfl zL ?_; (with_reducible refine (laws_toNest.calls k _ _ l0_0 _ _ l0_1 _ _ l0_2 _ _ l0_3 _ _ l0_4 t382 t385 t388 t391 t394 _ ?side1 ?side2 ?side3 ?side4 ?side5 ?side6 ?side7 ?side8 ?side9 ?side10 A9.out).mono ?_); (case side1 => exact zC (Kd.C_below HR0_0.out HB.out)); (case side2 => exact HC0_0.out); (case side3 => exact zC (Kd.C_below HR0_1.out HB.out)); (case side4 => exact HC0_1.out); (case side5 => exact zC (Kd.C_below HR0_2.out HB.out)); (case side6 => exact HC0_2.out); (case side7 => exact zC (Kd.C_below HR0_3.out HB.out)); (case side8 => exact HC0_3.out); (case side9 => exact zC (Kd.C_below HR0_4.out HB.out)); (case side10 => exact HC0_4.out); rintro e w24 ⟨v383, v386, v389, v392, v395, rfl, ho0, ho1, ho2, ho3, ho4, hb⟩; refine ⟨_, rfl, ?_⟩; have n0_ := zK (Kd.R_mono (Kd.R_told (Kd.R_told (Kd.R_told (Kd.R_old (zkR HO368) hb) (Kd.R_base ho0)) (Kd.R_base ho1)) (Kd.R_base ho4)) (fun _ h_ => h_.1)); have n1_ := zK (Kd.R_mono (Kd.R_told (Kd.R_told (Kd.R_told (Kd.R_old (zkR HO371) hb) (Kd.R_base ho0)) (Kd.R_base ho1)) (Kd.R_base ho4)) (fun _ h_ => h_.1)); have n2_ := zK (Kd.S_mono (Kd.S_told (Kd.S_told (Kd.S_told (Kd.S_told (Kd.S_old (zkS HO374) hb) (Kd.R_base ho0)) (Kd.R_base ho1)) (Kd.S_base ho2)) (Kd.R_base ho4)) (fun _ h_ => h_.1)); have n3_ := zK (Kd.R_mono (Kd.R_told (Kd.R_told (Kd.R_told (Kd.R_told (Kd.R_old (zkR HO377) hb) (Kd.R_base ho0)) (Kd.R_base ho1)) (Kd.R_base ho3)) (Kd.R_base ho4)) (fun _ h_ => h_.1)); have n4_ := zK (Kd.R_mono (Kd.R_told (Kd.R_told (Kd.R_told (Kd.R_old (zkR HO380) hb) (Kd.R_base ho0)) (Kd.R_base ho1)) (Kd.R_base ho4)) (fun _ h_ => h_.1)); have n5_ := zK (Kd.R_lower (Kd.R_new' (Kd.R_new' (Kd.R_new' ho0 (Kd.R_lt (zkR HO368))) (Kd.R_lt (zkR HO371))) (Kd.R_lt (zkR HO380))) (zz zB)); have n6_ := zK (Kd.R_lower (Kd.R_new' (Kd.R_new' (Kd.R_new' ho1 (Kd.R_lt (zkR HO368))) (Kd.R_lt (zkR HO371))) (Kd.R_lt (zkR HO380))) (zz zB)); have n7_ := zK (Kd.S_lower (Kd.S_new' (Kd.S_new' (Kd.S_new' (Kd.S_new' ho2 (Kd.R_lt (zkR HO368))) (Kd.R_lt (zkR HO371))) (Kd.S_lt (zkS HO374))) (Kd.R_lt (zkR HO380))) (zz zB)); have n8_ := zK (Kd.R_lower (Kd.R_new' (Kd.R_new' (Kd.R_new' (Kd.R_new' ho3 (Kd.R_lt (zkR HO368))) (Kd.R_lt (zkR HO371))) (Kd.R_lt (zkR HO377))) (Kd.R_lt (zkR HO380))) (zz zB)); have n9_ := zK (Kd.R_lower (Kd.R_new' (Kd.R_new' (Kd.R_new' ho4 (Kd.R_lt (zkR HO368))) (Kd.R_lt (zkR HO371))) (Kd.R_lt (zkR HO380))) (zz zB)); have n10_ := zK (zg (zM BK364) hb); have n11_ := zK (zp zB hb); clear HO368; clear HO371; clear HO374; clear HO377; clear HO380; clear BK364; clear HB; have HO368 := n0_; have HO371 := n1_; have HO374 := n2_; have HO377 := n3_; have HO380 := n4_; have HO384 := n5_; have HO387 := n6_; have HO390 := n7_; have HO393 := n8_; have HO396 := n9_; have BK364 := n10_; have HB := n11_; clear n0_ n1_ n2_ n3_ n4_ n5_ n6_ n7_ n8_ n9_ n10_ n11_; (try clear hb); (try clear hb2); (try clear hk); (try clear hi); (try clear ho0); (try clear ho1); (try clear ho2); (try clear ho3); (try clear ho4)) | ((with_reducible refine gate_dst (N := 5) rfl ?_); refine zJ 5 #[.slice none 0 0, .slice none 0 0, .slice none 0 0, .slice none 0 0, .slice none 0 0] 70 ?_; intro gb397 hg w25 hbox hb; have n0_ := zK (Kd.R_below (zkR HO368) hb); have n1_ := zK (Kd.R_below (zkR HO371) hb); have n2_ := zK (Kd.S_below (zkS HO374) hb); have n3_ := zK (Kd.R_below (zkR HO377) hb); have n4_ := zK (Kd.R_below (zkR HO380) hb); have n5_ := zK (Kd.R_below (zkR HO384) hb); have n6_ := zK (Kd.R_below (zkR HO387) hb); have n7_ := zK (Kd.S_below (zkS HO390) hb); have n8_ := zK (Kd.R_below (zkR HO393) hb); have n9_ := zK (Kd.R_below (zkR HO396) hb); have n10_ := zK (zg (zM BK364) hb); have n11_ := zK (zp zB hb); have n12_ := zK (hbox); have n13_ := zK (zI hg zB); have n14_ := zK (zI hg zB); have n15_ := zK (zH hg (zM BK364)); have n16_ := zK (zG hg (zM BK364)); clear HO368; clear HO371; clear HO374; clear HO377; clear HO380; clear HO384; clear HO387; clear HO390; clear HO393; clear HO396; clear BK364; clear HB; have HO368 := n0_; have HO371 := n1_; have HO374 := n2_; have HO377 := n3_; have HO380 := n4_; have HO384 := n5_; have HO387 := n6_; have HO390 := n7_; have HO393 := n8_; have HO396 := n9_; have BK364 := n10_; have HB := n11_; have BK397 := n12_; have GW397 := n13_; have GE397 := n14_; have NB364_397 := n15_; have NB397_364 := n16_; clear n0_ n1_ n2_ n3_ n4_ n5_ n6_ n7_ n8_ n9_ n10_ n11_ n12_ n13_ n14_ n15_ n16_; clear hb hbox hg; obtain ⟨Ao26, co26, eo26⟩ := Kd.R_slice HO384.out; subst eo26; have hnb27 := NB397_364.out; have hnc27 := NB364_397.out; obtain ⟨hcz28_0, hcz28_1, hcz28_2, hcz28_3, hcz28_4, hfz28_0, hfz28_1, hfz28_2, hfz28_3, hfz28_4⟩ := zc5 BK397; obtain ⟨Ao29, co29, eo29⟩ := Kd.R_slice HO387.out; subst eo29; obtain ⟨Ao30, co30, eo30⟩ := Kd.S_slice HO390.out; subst eo30; obtain ⟨Ao31, co31, eo31⟩ := Kd.R_slice HO393.out; subst eo31; obtain ⟨Ao32, co32, eo32⟩ := Kd.R_slice HO396.out; subst eo32) | ((with_reducible refine gate_callee (f := 34) rfl ?_); refine zF 18 Try.func34 #[.agg #[.slice Ao26 t382.length co26, .slice Ao29 t385.length co29, .slice Ao30 t388.length co30, .slice Ao31 t391.length co31, .slice Ao32 t394.length co32]] rfl zL ?_; (with_reducible refine (impl_NestOk.calls k _ _ t382 _ _ t385 _ _ t388 _ _ t391 _ _ t394 t398 _ ?side1 ?side2 ?side3 ?side4 ?side5 ?side6 ?side7 ?side8 ?side9 ?side10 A10.out).mono ?_); (case side1 => refine (Kd.R_reads' (e := 3) (base := w.heap.size) (ok := fun k_ => ((((some k_ ≠ (.slice Ao29 t385.length co29 : Value).ownBlock ∧ some k_ ≠ (.slice Ao32 t394.length co32 : Value).ownBlock) ∧ some k_ ≠ (.slice Ao17 t366.length co17 : Value).ownBlock) ∧ some k_ ≠ (.slice Ao18 t369.length co18 : Value).ownBlock) ∧ some k_ ≠ (.slice Ao21 t378.length co21 : Value).ownBlock)) (n := t382.length) (c := co26) ?_).2.2; exact (by (with_reducible repeat (first | apply Kd.R_alloc | apply Kd.R_drewN | apply Kd.R_drew)); exact (Kd.R_mono (Kd.R_far (p := ⟨gb397, 4, none⟩) (Kd.R_far (p := ⟨gb397, 3, none⟩) (Kd.R_far (p := ⟨gb397, 2, none⟩) (Kd.R_far (p := ⟨gb397, 1, none⟩) (Kd.R_far (p := ⟨gb397, 0, none⟩) (Kd.R_types HO384.out BK397.out (by decide)) (fun _ hk => hk.2) (.slice Ao26 t382.length co26)) (fun _ hk => hk.2) (.slice Ao29 t385.length co29)) (fun _ hk => hk.2) (.slice Ao30 t388.length co30)) (fun _ hk => hk.2) (.slice Ao31 t391.length co31)) (fun _ hk => hk.2) (.slice Ao32 t394.length co32)) (fun _ h_ => h_.1)))); (case side2 => exact (Kd.R_reads' HO384.out).2.1); (case side3 => refine (Kd.R_reads' (e := 3) (base := w.heap.size) (ok := fun k_ => ((((some k_ ≠ (.slice Ao26 t382.length co26 : Value).ownBlock ∧ some k_ ≠ (.slice Ao32 t394.length co32 : Value).ownBlock) ∧ some k_ ≠ (.slice Ao17 t366.length co17 : Value).ownBlock) ∧ some k_ ≠ (.slice Ao18 t369.length co18 : Value).ownBlock) ∧ some k_ ≠ (.slice Ao21 t378.length co21 : Value).ownBlock)) (n := t385.length) (c := co29) ?_).2.2; exact (by (with_reducible repeat (first | apply Kd.R_alloc | apply Kd.R_drewN | apply Kd.R_drew)); exact (Kd.R_mono (Kd.R_far (p := ⟨gb397, 4, none⟩) (Kd.R_far (p := ⟨gb397, 3, none⟩) (Kd.R_far (p := ⟨gb397, 2, none⟩) (Kd.R_far (p := ⟨gb397, 1, none⟩) (Kd.R_far (p := ⟨gb397, 0, none⟩) (Kd.R_types HO387.out BK397.out (by decide)) (fun _ hk => hk.2) (.slice Ao26 t382.length co26)) (fun _ hk => hk.2) (.slice Ao29 t385.length co29)) (fun _ hk => hk.2) (.slice Ao30 t388.length co30)) (fun _ hk => hk.2) (.slice Ao31 t391.length co31)) (fun _ hk => hk.2) (.slice Ao32 t394.length co32)) (fun _ h_ => h_.1)))); (case side4 => exact (Kd.R_reads' HO387.out).2.1); (case side5 => refine (Kd.S_reads' (e := 125) (base := w.heap.size) (ok := fun k_ => (((((some k_ ≠ (.slice Ao26 t382.length co26 : Value).ownBlock ∧ (some k_ ≠ (.slice Ao29 t385.length co29 : Value).ownBlock ∧ some k_ ≠ (.slice Ao32 t394.length co32 : Value).ownBlock)) ∧ some k_ ≠ (.slice Ao17 t366.length co17 : Value).ownBlock) ∧ some k_ ≠ (.slice Ao18 t369.length co18 : Value).ownBlock) ∧ some k_ ≠ (.slice Ao19 t372.length co19 : Value).ownBlock) ∧ some k_ ≠ (.slice Ao21 t378.length co21 : Value).ownBlock)) (n := t388.length) (c := co30) ?_).2.2; exact (by (with_reducible repeat (first | apply Kd.S_alloc | apply Kd.S_drewN | apply Kd.S_drew)); exact (Kd.S_mono (Kd.S_far (p := ⟨gb397, 4, none⟩) (Kd.S_far (p := ⟨gb397, 3, none⟩) (Kd.S_far (p := ⟨gb397, 2, none⟩) (Kd.S_far (p := ⟨gb397, 1, none⟩) (Kd.S_far (p := ⟨gb397, 0, none⟩) (Kd.S_types HO390.out BK397.out (by decide)) (fun _ hk => hk.2) (.slice Ao26 t382.length co26)) (fun _ hk => hk.2) (.slice Ao29 t385.length co29)) (fun _ hk => hk.2) (.slice Ao30 t388.length co30)) (fun _ hk => hk.2) (.slice Ao31 t391.length co31)) (fun _ hk => hk.2) (.slice Ao32 t394.length co32)) (fun _ h_ => h_.1)))); (case side6 => exact (Kd.S_reads' HO390.out).2.1); (case side7 => refine (Kd.R_reads' (e := 132) (base := w.heap.size) (ok := fun k_ => (((((some k_ ≠ (.slice Ao26 t382.length co26 : Value).ownBlock ∧ (some k_ ≠ (.slice Ao29 t385.length co29 : Value).ownBlock ∧ some k_ ≠ (.slice Ao32 t394.length co32 : Value).ownBlock)) ∧ some k_ ≠ (.slice Ao17 t366.length co17 : Value).ownBlock) ∧ some k_ ≠ (.slice Ao18 t369.length co18 : Value).ownBlock) ∧ some k_ ≠ (.slice Ao20 t375.length co20 : Value).ownBlock) ∧ some k_ ≠ (.slice Ao21 t378.length co21 : Value).ownBlock)) (n := t391.length) (c := co31) ?_).2.2; exact (by (with_reducible repeat (first | apply Kd.R_alloc | apply Kd.R_drewN | apply Kd.R_drew)); exact (Kd.R_mono (Kd.R_far (p := ⟨gb397, 4, none⟩) (Kd.R_far (p := ⟨gb397, 3, none⟩) (Kd.R_far (p := ⟨gb397, 2, none⟩) (Kd.R_far (p := ⟨gb397, 1, none⟩) (Kd.R_far (p := ⟨gb397, 0, none⟩) (Kd.R_types HO393.out BK397.out (by decide)) (fun _ hk => hk.2) (.slice Ao26 t382.length co26)) (fun _ hk => hk.2) (.slice Ao29 t385.length co29)) (fun _ hk => hk.2) (.slice Ao30 t388.length co30)) (fun _ hk => hk.2) (.slice Ao31 t391.length co31)) (fun _ hk => hk.2) (.slice Ao32 t394.length co32)) (fun _ h_ => h_.1)))); (case side8 => exact (Kd.R_reads' HO393.out).2.1); (case side9 => refine (Kd.R_reads' (e := 3) (base := w.heap.size) (ok := fun k_ => ((((some k_ ≠ (.slice Ao26 t382.length co26 : Value).ownBlock ∧ some k_ ≠ (.slice Ao29 t385.length co29 : Value).ownBlock) ∧ some k_ ≠ (.slice Ao17 t366.length co17 : Value).ownBlock) ∧ some k_ ≠ (.slice Ao18 t369.length co18 : Value).ownBlock) ∧ some k_ ≠ (.slice Ao21 t378.length co21 : Value).ownBlock)) (n := t394.length) (c := co32) ?_).2.2; exact (by (with_reducible repeat (first | apply Kd.R_alloc | apply Kd.R_drewN | apply Kd.R_drew)); exact (Kd.R_mono (Kd.R_far (p := ⟨gb397, 4, none⟩) (Kd.R_far (p := ⟨gb397, 3, none⟩) (Kd.R_far (p := ⟨gb397, 2, none⟩) (Kd.R_far (p := ⟨gb397, 1, none⟩) (Kd.R_far (p := ⟨gb397, 0, none⟩) (Kd.R_types HO396.out BK397.out (by decide)) (fun _ hk => hk.2) (.slice Ao26 t382.length co26)) (fun _ hk => hk.2) (.slice Ao29 t385.length co29)) (fun _ hk => hk.2) (.slice Ao30 t388.length co30)) (fun _ hk => hk.2) (.slice Ao31 t391.length co31)) (fun _ hk => hk.2) (.slice Ao32 t394.length co32)) (fun _ h_ => h_.1)))); (case side10 => exact (Kd.R_reads' HO396.out).2.1); rintro e w33 ⟨rfl, hb⟩; refine ⟨_, rfl, ?_⟩; have n0_ := zK (Kd.R_below (by (with_reducible repeat (first | apply Kd.R_alloc | apply Kd.R_drewN | apply Kd.R_drew)); exact (Kd.R_mono (Kd.R_far (p := ⟨gb397, 4, none⟩) (Kd.R_far (p := ⟨gb397, 3, none⟩) (Kd.R_far (p := ⟨gb397, 2, none⟩) (Kd.R_far (p := ⟨gb397, 1, none⟩) (Kd.R_far (p := ⟨gb397, 0, none⟩) (Kd.R_types HO368.out BK397.out (by decide)) (fun _ hk => hk.2) (.slice Ao26 t382.length co26)) (fun _ hk => hk.2) (.slice Ao29 t385.length co29)) (fun _ hk => hk.2) (.slice Ao30 t388.length co30)) (fun _ hk => hk.2) (.slice Ao31 t391.length co31)) (fun _ hk => hk.2) (.slice Ao32 t394.length co32)) (fun _ h_ => h_.1))) hb); have n1_ := zK (Kd.R_below (by (with_reducible repeat (first | apply Kd.R_alloc | apply Kd.R_drewN | apply Kd.R_drew)); exact (Kd.R_mono (Kd.R_far (p := ⟨gb397, 4, none⟩) (Kd.R_far (p := ⟨gb397, 3, none⟩) (Kd.R_far (p := ⟨gb397, 2, none⟩) (Kd.R_far (p := ⟨gb397, 1, none⟩) (Kd.R_far (p := ⟨gb397, 0, none⟩) (Kd.R_types HO371.out BK397.out (by decide)) (fun _ hk => hk.2) (.slice Ao26 t382.length co26)) (fun _ hk => hk.2) (.slice Ao29 t385.length co29)) (fun _ hk => hk.2) (.slice Ao30 t388.length co30)) (fun _ hk => hk.2) (.slice Ao31 t391.length co31)) (fun _ hk => hk.2) (.slice Ao32 t394.length co32)) (fun _ h_ => h_.1))) hb); have n2_ := zK (Kd.S_below (by (with_reducible repeat (first | apply Kd.S_alloc | apply Kd.S_drewN | apply Kd.S_drew)); exact (Kd.S_mono (Kd.S_far (p := ⟨gb397, 4, none⟩) (Kd.S_far (p := ⟨gb397, 3, none⟩) (Kd.S_far (p := ⟨gb397, 2, none⟩) (Kd.S_far (p := ⟨gb397, 1, none⟩) (Kd.S_far (p := ⟨gb397, 0, none⟩) (Kd.S_types HO374.out BK397.out (by decide)) (fun _ hk => hk.2) (.slice Ao26 t382.length co26)) (fun _ hk => hk.2) (.slice Ao29 t385.length co29)) (fun _ hk => hk.2) (.slice Ao30 t388.length co30)) (fun _ hk => hk.2) (.slice Ao31 t391.length co31)) (fun _ hk => hk.2) (.slice Ao32 t394.length co32)) (fun _ h_ => h_.1))) hb); have n3_ := zK (Kd.R_below (by (with_reducible repeat (first | apply Kd.R_alloc | apply Kd.R_drewN | apply Kd.R_drew)); exact (Kd.R_mono (Kd.R_far (p := ⟨gb397, 4, none⟩) (Kd.R_far (p := ⟨gb397, 3, none⟩) (Kd.R_far (p := ⟨gb397, 2, none⟩) (Kd.R_far (p := ⟨gb397, 1, none⟩) (Kd.R_far (p := ⟨gb397, 0, none⟩) (Kd.R_types HO377.out BK397.out (by decide)) (fun _ hk => hk.2) (.slice Ao26 t382.length co26)) (fun _ hk => hk.2) (.slice Ao29 t385.length co29)) (fun _ hk => hk.2) (.slice Ao30 t388.length co30)) (fun _ hk => hk.2) (.slice Ao31 t391.length co31)) (fun _ hk => hk.2) (.slice Ao32 t394.length co32)) (fun _ h_ => h_.1))) hb); have n4_ := zK (Kd.R_below (by (with_reducible repeat (first | apply Kd.R_alloc | apply Kd.R_drewN | apply Kd.R_drew)); exact (Kd.R_mono (Kd.R_far (p := ⟨gb397, 4, none⟩) (Kd.R_far (p := ⟨gb397, 3, none⟩) (Kd.R_far (p := ⟨gb397, 2, none⟩) (Kd.R_far (p := ⟨gb397, 1, none⟩) (Kd.R_far (p := ⟨gb397, 0, none⟩) (Kd.R_types HO380.out BK397.out (by decide)) (fun _ hk => hk.2) (.slice Ao26 t382.length co26)) (fun _ hk => hk.2) (.slice Ao29 t385.length co29)) (fun _ hk => hk.2) (.slice Ao30 t388.length co30)) (fun _ hk => hk.2) (.slice Ao31 t391.length co31)) (fun _ hk => hk.2) (.slice Ao32 t394.length co32)) (fun _ h_ => h_.1))) hb); have n5_ := zK (Kd.R_below (by (with_reducible repeat (first | apply Kd.R_alloc | apply Kd.R_drewN | apply Kd.R_drew)); exact (Kd.R_mono (Kd.R_far (p := ⟨gb397, 4, none⟩) (Kd.R_far (p := ⟨gb397, 3, none⟩) (Kd.R_far (p := ⟨gb397, 2, none⟩) (Kd.R_far (p := ⟨gb397, 1, none⟩) (Kd.R_far (p := ⟨gb397, 0, none⟩) (Kd.R_types HO384.out BK397.out (by decide)) (fun _ hk => hk.2) (.slice Ao26 t382.length co26)) (fun _ hk => hk.2) (.slice Ao29 t385.length co29)) (fun _ hk => hk.2) (.slice Ao30 t388.length co30)) (fun _ hk => hk.2) (.slice Ao31 t391.length co31)) (fun _ hk => hk.2) (.slice Ao32 t394.length co32)) (fun _ h_ => h_.1))) hb); have n6_ := zK (Kd.R_below (by (with_reducible repeat (first | apply Kd.R_alloc | apply Kd.R_drewN | apply Kd.R_drew)); exact (Kd.R_mono (Kd.R_far (p := ⟨gb397, 4, none⟩) (Kd.R_far (p := ⟨gb397, 3, none⟩) (Kd.R_far (p := ⟨gb397, 2, none⟩) (Kd.R_far (p := ⟨gb397, 1, none⟩) (Kd.R_far (p := ⟨gb397, 0, none⟩) (Kd.R_types HO387.out BK397.out (by decide)) (fun _ hk => hk.2) (.slice Ao26 t382.length co26)) (fun _ hk => hk.2) (.slice Ao29 t385.length co29)) (fun _ hk => hk.2) (.slice Ao30 t388.length co30)) (fun _ hk => hk.2) (.slice Ao31 t391.length co31)) (fun _ hk => hk.2) (.slice Ao32 t394.length co32)) (fun _ h_ => h_.1))) hb); have n7_ := zK (Kd.S_below (by (with_reducible repeat (first | apply Kd.S_alloc | apply Kd.S_drewN | apply Kd.S_drew)); exact (Kd.S_mono (Kd.S_far (p := ⟨gb397, 4, none⟩) (Kd.S_far (p := ⟨gb397, 3, none⟩) (Kd.S_far (p := ⟨gb397, 2, none⟩) (Kd.S_far (p := ⟨gb397, 1, none⟩) (Kd.S_far (p := ⟨gb397, 0, none⟩) (Kd.S_types HO390.out BK397.out (by decide)) (fun _ hk => hk.2) (.slice Ao26 t382.length co26)) (fun _ hk => hk.2) (.slice Ao29 t385.length co29)) (fun _ hk => hk.2) (.slice Ao30 t388.length co30)) (fun _ hk => hk.2) (.slice Ao31 t391.length co31)) (fun _ hk => hk.2) (.slice Ao32 t394.length co32)) (fun _ h_ => h_.1))) hb); have n8_ := zK (Kd.R_below (by (with_reducible repeat (first | apply Kd.R_alloc | apply Kd.R_drewN | apply Kd.R_drew)); exact (Kd.R_mono (Kd.R_far (p := ⟨gb397, 4, none⟩) (Kd.R_far (p := ⟨gb397, 3, none⟩) (Kd.R_far (p := ⟨gb397, 2, none⟩) (Kd.R_far (p := ⟨gb397, 1, none⟩) (Kd.R_far (p := ⟨gb397, 0, none⟩) (Kd.R_types HO393.out BK397.out (by decide)) (fun _ hk => hk.2) (.slice Ao26 t382.length co26)) (fun _ hk => hk.2) (.slice Ao29 t385.length co29)) (fun _ hk => hk.2) (.slice Ao30 t388.length co30)) (fun _ hk => hk.2) (.slice Ao31 t391.length co31)) (fun _ hk => hk.2) (.slice Ao32 t394.length co32)) (fun _ h_ => h_.1))) hb); have n9_ := zK (Kd.R_below (by (with_reducible repeat (first | apply Kd.R_alloc | apply Kd.R_drewN | apply Kd.R_drew)); exact (Kd.R_mono (Kd.R_far (p := ⟨gb397, 4, none⟩) (Kd.R_far (p := ⟨gb397, 3, none⟩) (Kd.R_far (p := ⟨gb397, 2, none⟩) (Kd.R_far (p := ⟨gb397, 1, none⟩) (Kd.R_far (p := ⟨gb397, 0, none⟩) (Kd.R_types HO396.out BK397.out (by decide)) (fun _ hk => hk.2) (.slice Ao26 t382.length co26)) (fun _ hk => hk.2) (.slice Ao29 t385.length co29)) (fun _ hk => hk.2) (.slice Ao30 t388.length co30)) (fun _ hk => hk.2) (.slice Ao31 t391.length co31)) (fun _ hk => hk.2) (.slice Ao32 t394.length co32)) (fun _ h_ => h_.1))) hb); have n10_ := zK (zg (g := gb364) (o := .cells #[.slice A0_0 l0_0.length c0_0, .slice A0_1 l0_1.length c0_1, .slice A0_2 l0_2.length c0_2, .slice A0_3 l0_3.length c0_3, .slice A0_4 l0_4.length c0_4] 64 (0, 0)) (by (with_reducible repeat (first | refine zn ?_ _ | refine zd ?_ | refine za ?_ _)); refine blk_far ?_ NB364_397.out _; (with_reducible repeat (first | refine zn ?_ _ | refine zd ?_ | refine za ?_ _)); refine blk_far ?_ NB364_397.out _; (with_reducible repeat (first | refine zn ?_ _ | refine zd ?_ | refine za ?_ _)); refine blk_far ?_ NB364_397.out _; (with_reducible repeat (first | refine zn ?_ _ | refine zd ?_ | refine za ?_ _)); refine blk_far ?_ NB364_397.out _; (with_reducible repeat (first | refine zn ?_ _ | refine zd ?_ | refine za ?_ _)); refine blk_far ?_ NB364_397.out _; (with_reducible repeat (first | refine zn ?_ _ | refine zd ?_ | refine za ?_ _)); exact BK364.out) hb); have n11_ := zK (zg (g := gb397) (o := .cells #[.slice Ao26 t382.length co26, .slice Ao29 t385.length co29, .slice Ao30 t388.length co30, .slice Ao31 t391.length co31, .slice Ao32 t394.length co32] 70 (0, 0)) (by (with_reducible repeat (first | refine zn ?_ _ | refine zd ?_ | refine za ?_ _)); refine blk_put (cs := #[.slice Ao26 t382.length co26, .slice Ao29 t385.length co29, .slice Ao30 t388.length co30, .slice Ao31 t391.length co31, .slice none 0 0]) ?_ 4 _ rfl; (with_reducible repeat (first | refine zn ?_ _ | refine zd ?_ | refine za ?_ _)); refine blk_put (cs := #[.slice Ao26 t382.length co26, .slice Ao29 t385.length co29, .slice Ao30 t388.length co30, .slice none 0 0, .slice none 0 0]) ?_ 3 _ rfl; (with_reducible repeat (first | refine zn ?_ _ | refine zd ?_ | refine za ?_ _)); refine blk_put (cs := #[.slice Ao26 t382.length co26, .slice Ao29 t385.length co29, .slice none 0 0, .slice none 0 0, .slice none 0 0]) ?_ 2 _ rfl; (with_reducible repeat (first | refine zn ?_ _ | refine zd ?_ | refine za ?_ _)); refine blk_put (cs := #[.slice Ao26 t382.length co26, .slice none 0 0, .slice none 0 0, .slice none 0 0, .slice none 0 0]) ?_ 1 _ rfl; (with_reducible repeat (first | refine zn ?_ _ | refine zd ?_ | refine za ?_ _)); refine blk_put (cs := #[.slice none 0 0, .slice none 0 0, .slice none 0 0, .slice none 0 0, .slice none 0 0]) ?_ 0 _ rfl; (with_reducible repeat (first | refine zn ?_ _ | refine zd ?_ | refine za ?_ _)); exact BK397.out) hb); have n12_ := zK (zp zB hb); clear HO368; clear HO371; clear HO374; clear HO377; clear HO380; clear HO384; clear HO387; clear HO390; clear HO393; clear HO396; clear BK364; clear BK397; clear HB; have HO368 := n0_; have HO371 := n1_; have HO374 := n2_; have HO377 := n3_; have HO380 := n4_; have HO384 := n5_; have HO387 := n6_; have HO390 := n7_; have HO393 := n8_; have HO396 := n9_; have BK364 := n10_; have BK397 := n11_; have HB := n12_; clear n0_ n1_ n2_ n3_ n4_ n5_ n6_ n7_ n8_ n9_ n10_ n11_ n12_; (try clear hb); (try clear hb2); (try clear hk); (try clear hi)))
    go_ret
    exact ⟨zE, zB⟩
  rw [if_neg c11] at H
  have c11b0 : (t398 != t381) = false := by simpa using c11
  (try (have c11b1 : decide (t398 = t381) = true := by simpa using c11))
  (try (have c11b2 : (t398 == t381) = true := by simpa using c11))
  clear c11
  replace H := Option.bind_eq_some_iff.mp H
  obtain ⟨⟨t399, t402, t405, t408, t411⟩, A340, H⟩ := H
  replace H : ((laws_eqNest.f k t382 t385 t388 t391 t394 t399 t402 t405 t408 t411).bind fun t414 => (if t414 = true then (some true) else (some false))) = some r := H
  have A34 := zK A340
  clear A340
  replace H := Option.bind_eq_some_iff.mp H
  obtain ⟨t414, A350, H⟩ := H
  replace H : (if t414 = true then (some true) else (some false)) = some r := H
  have A35 := zK A350
  clear A350
  by_cases c36 : t414 = true
  · subst c36
    have H1 : (some true) = some r := by rw [if_pos rfl] at H; exact H
    clear H
    have H := H1
    clear H1
    obtain rfl := Option.some.inj H
    go_enter Try.func5, Try.ntmps5
    try go_wp2_with (first | ((with_reducible refine gate_dst (N := 1) rfl ?_); refine zJ 1 #[.slice A0_0 l0_0.length c0_0, .slice A0_1 l0_1.length c0_1, .slice A0_2 l0_2.length c0_2, .slice A0_3 l0_3.length c0_3, .slice A0_4 l0_4.length c0_4] 64 ?_; intro gb364 hg w37 hbox hb; have n0_ := zK (zp zB hb); have n1_ := zK (hbox); have n2_ := zK (zI hg zB); have n3_ := zK (zI hg zB); clear HB; have HB := n0_; have BK364 := n1_; have GW364 := n2_; have GE364 := n3_; clear n0_ n1_ n2_ n3_; clear hb hbox hg; obtain ⟨hcz38_0, hcz38_1, hcz38_2, hcz38_3, hcz38_4, hfz38_0, hfz38_1, hfz38_2, hfz38_3, hfz38_4⟩ := zc5 BK364) | ((with_reducible refine gate_callee (f := 31) rfl ?_); refine zF 9 Try.func31 #[.agg #[.slice A0_0 l0_0.length c0_0, .slice A0_1 l0_1.length c0_1, .slice A0_2 l0_2.length c0_2, .slice A0_3 l0_3.length c0_3, .slice A0_4 l0_4.length c0_4], .int .i64 1048576] rfl zL ?_; (with_reducible refine (laws_szNest.calls k _ _ l0_0 _ _ l0_1 _ _ l0_2 _ _ l0_3 _ _ l0_4 1048576 t365 _ ?side1 ?side2 ?side3 ?side4 ?side5 ?side6 ?side7 ?side8 ?side9 ?side10 A2.out).mono ?_); (case side1 => exact zC (Kd.C_below HR0_0.out HB.out)); (case side2 => exact HC0_0.out); (case side3 => exact zC (Kd.C_below HR0_1.out HB.out)); (case side4 => exact HC0_1.out); (case side5 => exact zC (Kd.C_below HR0_2.out HB.out)); (case side6 => exact HC0_2.out); (case side7 => exact zC (Kd.C_below HR0_3.out HB.out)); (case side8 => exact HC0_3.out); (case side9 => exact zC (Kd.C_below HR0_4.out HB.out)); (case side10 => exact HC0_4.out); rintro e w39 ⟨rfl, hb⟩; refine ⟨_, rfl, ?_⟩; have n0_ := zK (zg (zM BK364) hb); have n1_ := zK (zp zB hb); clear BK364; clear HB; have BK364 := n0_; have HB := n1_; clear n0_ n1_; (try clear hb); (try clear hb2); (try clear hk); (try clear hi); obtain ⟨hcz40_0, hcz40_1, hcz40_2, hcz40_3, hcz40_4, hfz40_0, hfz40_1, hfz40_2, hfz40_3, hfz40_4⟩ := zc5 BK364) | ((with_reducible refine gate_callee (f := 33) rfl ?_); refine zF 13 Try.func33 #[.agg #[.slice A0_0 l0_0.length c0_0, .slice A0_1 l0_1.length c0_1, .slice A0_2 l0_2.length c0_2, .slice A0_3 l0_3.length c0_3, .slice A0_4 l0_4.length c0_4]] rfl zL ?_; (with_reducible refine (laws_toNest.calls k _ _ l0_0 _ _ l0_1 _ _ l0_2 _ _ l0_3 _ _ l0_4 t366 t369 t372 t375 t378 _ ?side1 ?side2 ?side3 ?side4 ?side5 ?side6 ?side7 ?side8 ?side9 ?side10 A7.out).mono ?_); (case side1 => exact zC (Kd.C_below HR0_0.out HB.out)); (case side2 => exact HC0_0.out); (case side3 => exact zC (Kd.C_below HR0_1.out HB.out)); (case side4 => exact HC0_1.out); (case side5 => exact zC (Kd.C_below HR0_2.out HB.out)); (case side6 => exact HC0_2.out); (case side7 => exact zC (Kd.C_below HR0_3.out HB.out)); (case side8 => exact HC0_3.out); (case side9 => exact zC (Kd.C_below HR0_4.out HB.out)); (case side10 => exact HC0_4.out); rintro e w41 ⟨v367, v370, v373, v376, v379, rfl, ho0, ho1, ho2, ho3, ho4, hb⟩; refine ⟨_, rfl, ?_⟩; have n0_ := zK (Kd.R_lower ho0 (zz zB)); have n1_ := zK (Kd.R_lower ho1 (zz zB)); have n2_ := zK (Kd.S_lower ho2 (zz zB)); have n3_ := zK (Kd.R_lower ho3 (zz zB)); have n4_ := zK (Kd.R_lower ho4 (zz zB)); have n5_ := zK (zg (zM BK364) hb); have n6_ := zK (zp zB hb); clear BK364; clear HB; have HO368 := n0_; have HO371 := n1_; have HO374 := n2_; have HO377 := n3_; have HO380 := n4_; have BK364 := n5_; have HB := n6_; clear n0_ n1_ n2_ n3_ n4_ n5_ n6_; (try clear hb); (try clear hb2); (try clear hk); (try clear hi); (try clear ho0); (try clear ho1); (try clear ho2); (try clear ho3); (try clear ho4); obtain ⟨Ao42, co42, eo42⟩ := Kd.R_slice HO368.out; subst eo42; obtain ⟨Ao43, co43, eo43⟩ := Kd.R_slice HO371.out; subst eo43; obtain ⟨Ao44, co44, eo44⟩ := Kd.S_slice HO374.out; subst eo44; obtain ⟨Ao45, co45, eo45⟩ := Kd.R_slice HO377.out; subst eo45; obtain ⟨Ao46, co46, eo46⟩ := Kd.R_slice HO380.out; subst eo46) | ((with_reducible refine gate_callee (f := 32) rfl ?_); refine zF 14 Try.func32 #[.agg #[.slice Ao42 t366.length co42, .slice Ao43 t369.length co43, .slice Ao44 t372.length co44, .slice Ao45 t375.length co45, .slice Ao46 t378.length co46]] rfl zL ?_; (with_reducible refine (spec_NestOk.calls k _ _ t366 _ _ t369 _ _ t372 _ _ t375 _ _ t378 t381 _ ?side1 ?side2 ?side3 ?side4 ?side5 ?side6 ?side7 ?side8 ?side9 ?side10 A8.out).mono ?_); (case side1 => exact zC (Kd.R_reads' HO368.out).2.2); (case side2 => exact (Kd.R_reads' HO368.out).2.1); (case side3 => exact zC (Kd.R_reads' HO371.out).2.2); (case side4 => exact (Kd.R_reads' HO371.out).2.1); (case side5 => exact zC (Kd.S_reads' HO374.out).2.2); (case side6 => exact (Kd.S_reads' HO374.out).2.1); (case side7 => exact zC (Kd.R_reads' HO377.out).2.2); (case side8 => exact (Kd.R_reads' HO377.out).2.1); (case side9 => exact zC (Kd.R_reads' HO380.out).2.2); (case side10 => exact (Kd.R_reads' HO380.out).2.1); rintro e w47 ⟨rfl, hb⟩; refine ⟨_, rfl, ?_⟩; have n0_ := zK (Kd.R_below (zkR HO368) hb); have n1_ := zK (Kd.R_below (zkR HO371) hb); have n2_ := zK (Kd.S_below (zkS HO374) hb); have n3_ := zK (Kd.R_below (zkR HO377) hb); have n4_ := zK (Kd.R_below (zkR HO380) hb); have n5_ := zK (zg (zM BK364) hb); have n6_ := zK (zp zB hb); clear HO368; clear HO371; clear HO374; clear HO377; clear HO380; clear BK364; clear HB; have HO368 := n0_; have HO371 := n1_; have HO374 := n2_; have HO377 := n3_; have HO380 := n4_; have BK364 := n5_; have HB := n6_; clear n0_ n1_ n2_ n3_ n4_ n5_ n6_; (try clear hb); (try clear hb2); (try clear hk); (try clear hi); obtain ⟨hcz48_0, hcz48_1, hcz48_2, hcz48_3, hcz48_4, hfz48_0, hfz48_1, hfz48_2, hfz48_3, hfz48_4⟩ := zc5 BK364) | ((with_reducible refine gate_callee (f := 33) rfl ?_); refine zF 16 Try.func33 #[.agg #[.slice A0_0 l0_0.length c0_0, .slice A0_1 l0_1.length c0_1, .slice A0_2 l0_2.length c0_2, .slice A0_3 l0_3.length c0_3, .slice A0_4 l0_4.length c0_4]] rfl zL ?_; (with_reducible refine (laws_toNest.calls k _ _ l0_0 _ _ l0_1 _ _ l0_2 _ _ l0_3 _ _ l0_4 t382 t385 t388 t391 t394 _ ?side1 ?side2 ?side3 ?side4 ?side5 ?side6 ?side7 ?side8 ?side9 ?side10 A9.out).mono ?_); (case side1 => exact zC (Kd.C_below HR0_0.out HB.out)); (case side2 => exact HC0_0.out); (case side3 => exact zC (Kd.C_below HR0_1.out HB.out)); (case side4 => exact HC0_1.out); (case side5 => exact zC (Kd.C_below HR0_2.out HB.out)); (case side6 => exact HC0_2.out); (case side7 => exact zC (Kd.C_below HR0_3.out HB.out)); (case side8 => exact HC0_3.out); (case side9 => exact zC (Kd.C_below HR0_4.out HB.out)); (case side10 => exact HC0_4.out); rintro e w49 ⟨v383, v386, v389, v392, v395, rfl, ho0, ho1, ho2, ho3, ho4, hb⟩; refine ⟨_, rfl, ?_⟩; have n0_ := zK (Kd.R_mono (Kd.R_told (Kd.R_told (Kd.R_told (Kd.R_old (zkR HO368) hb) (Kd.R_base ho0)) (Kd.R_base ho1)) (Kd.R_base ho4)) (fun _ h_ => h_.1)); have n1_ := zK (Kd.R_mono (Kd.R_told (Kd.R_told (Kd.R_told (Kd.R_old (zkR HO371) hb) (Kd.R_base ho0)) (Kd.R_base ho1)) (Kd.R_base ho4)) (fun _ h_ => h_.1)); have n2_ := zK (Kd.S_mono (Kd.S_told (Kd.S_told (Kd.S_told (Kd.S_told (Kd.S_old (zkS HO374) hb) (Kd.R_base ho0)) (Kd.R_base ho1)) (Kd.S_base ho2)) (Kd.R_base ho4)) (fun _ h_ => h_.1)); have n3_ := zK (Kd.R_mono (Kd.R_told (Kd.R_told (Kd.R_told (Kd.R_told (Kd.R_old (zkR HO377) hb) (Kd.R_base ho0)) (Kd.R_base ho1)) (Kd.R_base ho3)) (Kd.R_base ho4)) (fun _ h_ => h_.1)); have n4_ := zK (Kd.R_mono (Kd.R_told (Kd.R_told (Kd.R_told (Kd.R_old (zkR HO380) hb) (Kd.R_base ho0)) (Kd.R_base ho1)) (Kd.R_base ho4)) (fun _ h_ => h_.1)); have n5_ := zK (Kd.R_lower (Kd.R_new' (Kd.R_new' (Kd.R_new' ho0 (Kd.R_lt (zkR HO368))) (Kd.R_lt (zkR HO371))) (Kd.R_lt (zkR HO380))) (zz zB)); have n6_ := zK (Kd.R_lower (Kd.R_new' (Kd.R_new' (Kd.R_new' ho1 (Kd.R_lt (zkR HO368))) (Kd.R_lt (zkR HO371))) (Kd.R_lt (zkR HO380))) (zz zB)); have n7_ := zK (Kd.S_lower (Kd.S_new' (Kd.S_new' (Kd.S_new' (Kd.S_new' ho2 (Kd.R_lt (zkR HO368))) (Kd.R_lt (zkR HO371))) (Kd.S_lt (zkS HO374))) (Kd.R_lt (zkR HO380))) (zz zB)); have n8_ := zK (Kd.R_lower (Kd.R_new' (Kd.R_new' (Kd.R_new' (Kd.R_new' ho3 (Kd.R_lt (zkR HO368))) (Kd.R_lt (zkR HO371))) (Kd.R_lt (zkR HO377))) (Kd.R_lt (zkR HO380))) (zz zB)); have n9_ := zK (Kd.R_lower (Kd.R_new' (Kd.R_new' (Kd.R_new' ho4 (Kd.R_lt (zkR HO368))) (Kd.R_lt (zkR HO371))) (Kd.R_lt (zkR HO380))) (zz zB)); have n10_ := zK (zg (zM BK364) hb); have n11_ := zK (zp zB hb); clear HO368; clear HO371; clear HO374; clear HO377; clear HO380; clear BK364; clear HB; have HO368 := n0_; have HO371 := n1_; have HO374 := n2_; have HO377 := n3_; have HO380 := n4_; have HO384 := n5_; have HO387 := n6_; have HO390 := n7_; have HO393 := n8_; have HO396 := n9_; have BK364 := n10_; have HB := n11_; clear n0_ n1_ n2_ n3_ n4_ n5_ n6_ n7_ n8_ n9_ n10_ n11_; (try clear hb); (try clear hb2); (try clear hk); (try clear hi); (try clear ho0); (try clear ho1); (try clear ho2); (try clear ho3); (try clear ho4)) | ((with_reducible refine gate_dst (N := 5) rfl ?_); refine zJ 5 #[.slice none 0 0, .slice none 0 0, .slice none 0 0, .slice none 0 0, .slice none 0 0] 70 ?_; intro gb397 hg w50 hbox hb; have n0_ := zK (Kd.R_below (zkR HO368) hb); have n1_ := zK (Kd.R_below (zkR HO371) hb); have n2_ := zK (Kd.S_below (zkS HO374) hb); have n3_ := zK (Kd.R_below (zkR HO377) hb); have n4_ := zK (Kd.R_below (zkR HO380) hb); have n5_ := zK (Kd.R_below (zkR HO384) hb); have n6_ := zK (Kd.R_below (zkR HO387) hb); have n7_ := zK (Kd.S_below (zkS HO390) hb); have n8_ := zK (Kd.R_below (zkR HO393) hb); have n9_ := zK (Kd.R_below (zkR HO396) hb); have n10_ := zK (zg (zM BK364) hb); have n11_ := zK (zp zB hb); have n12_ := zK (hbox); have n13_ := zK (zI hg zB); have n14_ := zK (zI hg zB); have n15_ := zK (zH hg (zM BK364)); have n16_ := zK (zG hg (zM BK364)); clear HO368; clear HO371; clear HO374; clear HO377; clear HO380; clear HO384; clear HO387; clear HO390; clear HO393; clear HO396; clear BK364; clear HB; have HO368 := n0_; have HO371 := n1_; have HO374 := n2_; have HO377 := n3_; have HO380 := n4_; have HO384 := n5_; have HO387 := n6_; have HO390 := n7_; have HO393 := n8_; have HO396 := n9_; have BK364 := n10_; have HB := n11_; have BK397 := n12_; have GW397 := n13_; have GE397 := n14_; have NB364_397 := n15_; have NB397_364 := n16_; clear n0_ n1_ n2_ n3_ n4_ n5_ n6_ n7_ n8_ n9_ n10_ n11_ n12_ n13_ n14_ n15_ n16_; clear hb hbox hg; obtain ⟨Ao51, co51, eo51⟩ := Kd.R_slice HO384.out; subst eo51; have hnb52 := NB397_364.out; have hnc52 := NB364_397.out; obtain ⟨hcz53_0, hcz53_1, hcz53_2, hcz53_3, hcz53_4, hfz53_0, hfz53_1, hfz53_2, hfz53_3, hfz53_4⟩ := zc5 BK397; obtain ⟨Ao54, co54, eo54⟩ := Kd.R_slice HO387.out; subst eo54; obtain ⟨Ao55, co55, eo55⟩ := Kd.S_slice HO390.out; subst eo55; obtain ⟨Ao56, co56, eo56⟩ := Kd.R_slice HO393.out; subst eo56; obtain ⟨Ao57, co57, eo57⟩ := Kd.R_slice HO396.out; subst eo57) | ((with_reducible refine gate_callee (f := 34) rfl ?_); refine zF 18 Try.func34 #[.agg #[.slice Ao51 t382.length co51, .slice Ao54 t385.length co54, .slice Ao55 t388.length co55, .slice Ao56 t391.length co56, .slice Ao57 t394.length co57]] rfl zL ?_; (with_reducible refine (impl_NestOk.calls k _ _ t382 _ _ t385 _ _ t388 _ _ t391 _ _ t394 t398 _ ?side1 ?side2 ?side3 ?side4 ?side5 ?side6 ?side7 ?side8 ?side9 ?side10 A10.out).mono ?_); (case side1 => refine (Kd.R_reads' (e := 3) (base := w.heap.size) (ok := fun k_ => ((((some k_ ≠ (.slice Ao54 t385.length co54 : Value).ownBlock ∧ some k_ ≠ (.slice Ao57 t394.length co57 : Value).ownBlock) ∧ some k_ ≠ (.slice Ao42 t366.length co42 : Value).ownBlock) ∧ some k_ ≠ (.slice Ao43 t369.length co43 : Value).ownBlock) ∧ some k_ ≠ (.slice Ao46 t378.length co46 : Value).ownBlock)) (n := t382.length) (c := co51) ?_).2.2; exact (by (with_reducible repeat (first | apply Kd.R_alloc | apply Kd.R_drewN | apply Kd.R_drew)); exact (Kd.R_mono (Kd.R_far (p := ⟨gb397, 4, none⟩) (Kd.R_far (p := ⟨gb397, 3, none⟩) (Kd.R_far (p := ⟨gb397, 2, none⟩) (Kd.R_far (p := ⟨gb397, 1, none⟩) (Kd.R_far (p := ⟨gb397, 0, none⟩) (Kd.R_types HO384.out BK397.out (by decide)) (fun _ hk => hk.2) (.slice Ao51 t382.length co51)) (fun _ hk => hk.2) (.slice Ao54 t385.length co54)) (fun _ hk => hk.2) (.slice Ao55 t388.length co55)) (fun _ hk => hk.2) (.slice Ao56 t391.length co56)) (fun _ hk => hk.2) (.slice Ao57 t394.length co57)) (fun _ h_ => h_.1)))); (case side2 => exact (Kd.R_reads' HO384.out).2.1); (case side3 => refine (Kd.R_reads' (e := 3) (base := w.heap.size) (ok := fun k_ => ((((some k_ ≠ (.slice Ao51 t382.length co51 : Value).ownBlock ∧ some k_ ≠ (.slice Ao57 t394.length co57 : Value).ownBlock) ∧ some k_ ≠ (.slice Ao42 t366.length co42 : Value).ownBlock) ∧ some k_ ≠ (.slice Ao43 t369.length co43 : Value).ownBlock) ∧ some k_ ≠ (.slice Ao46 t378.length co46 : Value).ownBlock)) (n := t385.length) (c := co54) ?_).2.2; exact (by (with_reducible repeat (first | apply Kd.R_alloc | apply Kd.R_drewN | apply Kd.R_drew)); exact (Kd.R_mono (Kd.R_far (p := ⟨gb397, 4, none⟩) (Kd.R_far (p := ⟨gb397, 3, none⟩) (Kd.R_far (p := ⟨gb397, 2, none⟩) (Kd.R_far (p := ⟨gb397, 1, none⟩) (Kd.R_far (p := ⟨gb397, 0, none⟩) (Kd.R_types HO387.out BK397.out (by decide)) (fun _ hk => hk.2) (.slice Ao51 t382.length co51)) (fun _ hk => hk.2) (.slice Ao54 t385.length co54)) (fun _ hk => hk.2) (.slice Ao55 t388.length co55)) (fun _ hk => hk.2) (.slice Ao56 t391.length co56)) (fun _ hk => hk.2) (.slice Ao57 t394.length co57)) (fun _ h_ => h_.1)))); (case side4 => exact (Kd.R_reads' HO387.out).2.1); (case side5 => refine (Kd.S_reads' (e := 125) (base := w.heap.size) (ok := fun k_ => (((((some k_ ≠ (.slice Ao51 t382.length co51 : Value).ownBlock ∧ (some k_ ≠ (.slice Ao54 t385.length co54 : Value).ownBlock ∧ some k_ ≠ (.slice Ao57 t394.length co57 : Value).ownBlock)) ∧ some k_ ≠ (.slice Ao42 t366.length co42 : Value).ownBlock) ∧ some k_ ≠ (.slice Ao43 t369.length co43 : Value).ownBlock) ∧ some k_ ≠ (.slice Ao44 t372.length co44 : Value).ownBlock) ∧ some k_ ≠ (.slice Ao46 t378.length co46 : Value).ownBlock)) (n := t388.length) (c := co55) ?_).2.2; exact (by (with_reducible repeat (first | apply Kd.S_alloc | apply Kd.S_drewN | apply Kd.S_drew)); exact (Kd.S_mono (Kd.S_far (p := ⟨gb397, 4, none⟩) (Kd.S_far (p := ⟨gb397, 3, none⟩) (Kd.S_far (p := ⟨gb397, 2, none⟩) (Kd.S_far (p := ⟨gb397, 1, none⟩) (Kd.S_far (p := ⟨gb397, 0, none⟩) (Kd.S_types HO390.out BK397.out (by decide)) (fun _ hk => hk.2) (.slice Ao51 t382.length co51)) (fun _ hk => hk.2) (.slice Ao54 t385.length co54)) (fun _ hk => hk.2) (.slice Ao55 t388.length co55)) (fun _ hk => hk.2) (.slice Ao56 t391.length co56)) (fun _ hk => hk.2) (.slice Ao57 t394.length co57)) (fun _ h_ => h_.1)))); (case side6 => exact (Kd.S_reads' HO390.out).2.1); (case side7 => refine (Kd.R_reads' (e := 132) (base := w.heap.size) (ok := fun k_ => (((((some k_ ≠ (.slice Ao51 t382.length co51 : Value).ownBlock ∧ (some k_ ≠ (.slice Ao54 t385.length co54 : Value).ownBlock ∧ some k_ ≠ (.slice Ao57 t394.length co57 : Value).ownBlock)) ∧ some k_ ≠ (.slice Ao42 t366.length co42 : Value).ownBlock) ∧ some k_ ≠ (.slice Ao43 t369.length co43 : Value).ownBlock) ∧ some k_ ≠ (.slice Ao45 t375.length co45 : Value).ownBlock) ∧ some k_ ≠ (.slice Ao46 t378.length co46 : Value).ownBlock)) (n := t391.length) (c := co56) ?_).2.2; exact (by (with_reducible repeat (first | apply Kd.R_alloc | apply Kd.R_drewN | apply Kd.R_drew)); exact (Kd.R_mono (Kd.R_far (p := ⟨gb397, 4, none⟩) (Kd.R_far (p := ⟨gb397, 3, none⟩) (Kd.R_far (p := ⟨gb397, 2, none⟩) (Kd.R_far (p := ⟨gb397, 1, none⟩) (Kd.R_far (p := ⟨gb397, 0, none⟩) (Kd.R_types HO393.out BK397.out (by decide)) (fun _ hk => hk.2) (.slice Ao51 t382.length co51)) (fun _ hk => hk.2) (.slice Ao54 t385.length co54)) (fun _ hk => hk.2) (.slice Ao55 t388.length co55)) (fun _ hk => hk.2) (.slice Ao56 t391.length co56)) (fun _ hk => hk.2) (.slice Ao57 t394.length co57)) (fun _ h_ => h_.1)))); (case side8 => exact (Kd.R_reads' HO393.out).2.1); (case side9 => refine (Kd.R_reads' (e := 3) (base := w.heap.size) (ok := fun k_ => ((((some k_ ≠ (.slice Ao51 t382.length co51 : Value).ownBlock ∧ some k_ ≠ (.slice Ao54 t385.length co54 : Value).ownBlock) ∧ some k_ ≠ (.slice Ao42 t366.length co42 : Value).ownBlock) ∧ some k_ ≠ (.slice Ao43 t369.length co43 : Value).ownBlock) ∧ some k_ ≠ (.slice Ao46 t378.length co46 : Value).ownBlock)) (n := t394.length) (c := co57) ?_).2.2; exact (by (with_reducible repeat (first | apply Kd.R_alloc | apply Kd.R_drewN | apply Kd.R_drew)); exact (Kd.R_mono (Kd.R_far (p := ⟨gb397, 4, none⟩) (Kd.R_far (p := ⟨gb397, 3, none⟩) (Kd.R_far (p := ⟨gb397, 2, none⟩) (Kd.R_far (p := ⟨gb397, 1, none⟩) (Kd.R_far (p := ⟨gb397, 0, none⟩) (Kd.R_types HO396.out BK397.out (by decide)) (fun _ hk => hk.2) (.slice Ao51 t382.length co51)) (fun _ hk => hk.2) (.slice Ao54 t385.length co54)) (fun _ hk => hk.2) (.slice Ao55 t388.length co55)) (fun _ hk => hk.2) (.slice Ao56 t391.length co56)) (fun _ hk => hk.2) (.slice Ao57 t394.length co57)) (fun _ h_ => h_.1)))); (case side10 => exact (Kd.R_reads' HO396.out).2.1); rintro e w58 ⟨rfl, hb⟩; refine ⟨_, rfl, ?_⟩; have n0_ := zK (Kd.R_below (by (with_reducible repeat (first | apply Kd.R_alloc | apply Kd.R_drewN | apply Kd.R_drew)); exact (Kd.R_mono (Kd.R_far (p := ⟨gb397, 4, none⟩) (Kd.R_far (p := ⟨gb397, 3, none⟩) (Kd.R_far (p := ⟨gb397, 2, none⟩) (Kd.R_far (p := ⟨gb397, 1, none⟩) (Kd.R_far (p := ⟨gb397, 0, none⟩) (Kd.R_types HO368.out BK397.out (by decide)) (fun _ hk => hk.2) (.slice Ao51 t382.length co51)) (fun _ hk => hk.2) (.slice Ao54 t385.length co54)) (fun _ hk => hk.2) (.slice Ao55 t388.length co55)) (fun _ hk => hk.2) (.slice Ao56 t391.length co56)) (fun _ hk => hk.2) (.slice Ao57 t394.length co57)) (fun _ h_ => h_.1))) hb); have n1_ := zK (Kd.R_below (by (with_reducible repeat (first | apply Kd.R_alloc | apply Kd.R_drewN | apply Kd.R_drew)); exact (Kd.R_mono (Kd.R_far (p := ⟨gb397, 4, none⟩) (Kd.R_far (p := ⟨gb397, 3, none⟩) (Kd.R_far (p := ⟨gb397, 2, none⟩) (Kd.R_far (p := ⟨gb397, 1, none⟩) (Kd.R_far (p := ⟨gb397, 0, none⟩) (Kd.R_types HO371.out BK397.out (by decide)) (fun _ hk => hk.2) (.slice Ao51 t382.length co51)) (fun _ hk => hk.2) (.slice Ao54 t385.length co54)) (fun _ hk => hk.2) (.slice Ao55 t388.length co55)) (fun _ hk => hk.2) (.slice Ao56 t391.length co56)) (fun _ hk => hk.2) (.slice Ao57 t394.length co57)) (fun _ h_ => h_.1))) hb); have n2_ := zK (Kd.S_below (by (with_reducible repeat (first | apply Kd.S_alloc | apply Kd.S_drewN | apply Kd.S_drew)); exact (Kd.S_mono (Kd.S_far (p := ⟨gb397, 4, none⟩) (Kd.S_far (p := ⟨gb397, 3, none⟩) (Kd.S_far (p := ⟨gb397, 2, none⟩) (Kd.S_far (p := ⟨gb397, 1, none⟩) (Kd.S_far (p := ⟨gb397, 0, none⟩) (Kd.S_types HO374.out BK397.out (by decide)) (fun _ hk => hk.2) (.slice Ao51 t382.length co51)) (fun _ hk => hk.2) (.slice Ao54 t385.length co54)) (fun _ hk => hk.2) (.slice Ao55 t388.length co55)) (fun _ hk => hk.2) (.slice Ao56 t391.length co56)) (fun _ hk => hk.2) (.slice Ao57 t394.length co57)) (fun _ h_ => h_.1))) hb); have n3_ := zK (Kd.R_below (by (with_reducible repeat (first | apply Kd.R_alloc | apply Kd.R_drewN | apply Kd.R_drew)); exact (Kd.R_mono (Kd.R_far (p := ⟨gb397, 4, none⟩) (Kd.R_far (p := ⟨gb397, 3, none⟩) (Kd.R_far (p := ⟨gb397, 2, none⟩) (Kd.R_far (p := ⟨gb397, 1, none⟩) (Kd.R_far (p := ⟨gb397, 0, none⟩) (Kd.R_types HO377.out BK397.out (by decide)) (fun _ hk => hk.2) (.slice Ao51 t382.length co51)) (fun _ hk => hk.2) (.slice Ao54 t385.length co54)) (fun _ hk => hk.2) (.slice Ao55 t388.length co55)) (fun _ hk => hk.2) (.slice Ao56 t391.length co56)) (fun _ hk => hk.2) (.slice Ao57 t394.length co57)) (fun _ h_ => h_.1))) hb); have n4_ := zK (Kd.R_below (by (with_reducible repeat (first | apply Kd.R_alloc | apply Kd.R_drewN | apply Kd.R_drew)); exact (Kd.R_mono (Kd.R_far (p := ⟨gb397, 4, none⟩) (Kd.R_far (p := ⟨gb397, 3, none⟩) (Kd.R_far (p := ⟨gb397, 2, none⟩) (Kd.R_far (p := ⟨gb397, 1, none⟩) (Kd.R_far (p := ⟨gb397, 0, none⟩) (Kd.R_types HO380.out BK397.out (by decide)) (fun _ hk => hk.2) (.slice Ao51 t382.length co51)) (fun _ hk => hk.2) (.slice Ao54 t385.length co54)) (fun _ hk => hk.2) (.slice Ao55 t388.length co55)) (fun _ hk => hk.2) (.slice Ao56 t391.length co56)) (fun _ hk => hk.2) (.slice Ao57 t394.length co57)) (fun _ h_ => h_.1))) hb); have n5_ := zK (Kd.R_below (by (with_reducible repeat (first | apply Kd.R_alloc | apply Kd.R_drewN | apply Kd.R_drew)); exact (Kd.R_mono (Kd.R_far (p := ⟨gb397, 4, none⟩) (Kd.R_far (p := ⟨gb397, 3, none⟩) (Kd.R_far (p := ⟨gb397, 2, none⟩) (Kd.R_far (p := ⟨gb397, 1, none⟩) (Kd.R_far (p := ⟨gb397, 0, none⟩) (Kd.R_types HO384.out BK397.out (by decide)) (fun _ hk => hk.2) (.slice Ao51 t382.length co51)) (fun _ hk => hk.2) (.slice Ao54 t385.length co54)) (fun _ hk => hk.2) (.slice Ao55 t388.length co55)) (fun _ hk => hk.2) (.slice Ao56 t391.length co56)) (fun _ hk => hk.2) (.slice Ao57 t394.length co57)) (fun _ h_ => h_.1))) hb); have n6_ := zK (Kd.R_below (by (with_reducible repeat (first | apply Kd.R_alloc | apply Kd.R_drewN | apply Kd.R_drew)); exact (Kd.R_mono (Kd.R_far (p := ⟨gb397, 4, none⟩) (Kd.R_far (p := ⟨gb397, 3, none⟩) (Kd.R_far (p := ⟨gb397, 2, none⟩) (Kd.R_far (p := ⟨gb397, 1, none⟩) (Kd.R_far (p := ⟨gb397, 0, none⟩) (Kd.R_types HO387.out BK397.out (by decide)) (fun _ hk => hk.2) (.slice Ao51 t382.length co51)) (fun _ hk => hk.2) (.slice Ao54 t385.length co54)) (fun _ hk => hk.2) (.slice Ao55 t388.length co55)) (fun _ hk => hk.2) (.slice Ao56 t391.length co56)) (fun _ hk => hk.2) (.slice Ao57 t394.length co57)) (fun _ h_ => h_.1))) hb); have n7_ := zK (Kd.S_below (by (with_reducible repeat (first | apply Kd.S_alloc | apply Kd.S_drewN | apply Kd.S_drew)); exact (Kd.S_mono (Kd.S_far (p := ⟨gb397, 4, none⟩) (Kd.S_far (p := ⟨gb397, 3, none⟩) (Kd.S_far (p := ⟨gb397, 2, none⟩) (Kd.S_far (p := ⟨gb397, 1, none⟩) (Kd.S_far (p := ⟨gb397, 0, none⟩) (Kd.S_types HO390.out BK397.out (by decide)) (fun _ hk => hk.2) (.slice Ao51 t382.length co51)) (fun _ hk => hk.2) (.slice Ao54 t385.length co54)) (fun _ hk => hk.2) (.slice Ao55 t388.length co55)) (fun _ hk => hk.2) (.slice Ao56 t391.length co56)) (fun _ hk => hk.2) (.slice Ao57 t394.length co57)) (fun _ h_ => h_.1))) hb); have n8_ := zK (Kd.R_below (by (with_reducible repeat (first | apply Kd.R_alloc | apply Kd.R_drewN | apply Kd.R_drew)); exact (Kd.R_mono (Kd.R_far (p := ⟨gb397, 4, none⟩) (Kd.R_far (p := ⟨gb397, 3, none⟩) (Kd.R_far (p := ⟨gb397, 2, none⟩) (Kd.R_far (p := ⟨gb397, 1, none⟩) (Kd.R_far (p := ⟨gb397, 0, none⟩) (Kd.R_types HO393.out BK397.out (by decide)) (fun _ hk => hk.2) (.slice Ao51 t382.length co51)) (fun _ hk => hk.2) (.slice Ao54 t385.length co54)) (fun _ hk => hk.2) (.slice Ao55 t388.length co55)) (fun _ hk => hk.2) (.slice Ao56 t391.length co56)) (fun _ hk => hk.2) (.slice Ao57 t394.length co57)) (fun _ h_ => h_.1))) hb); have n9_ := zK (Kd.R_below (by (with_reducible repeat (first | apply Kd.R_alloc | apply Kd.R_drewN | apply Kd.R_drew)); exact (Kd.R_mono (Kd.R_far (p := ⟨gb397, 4, none⟩) (Kd.R_far (p := ⟨gb397, 3, none⟩) (Kd.R_far (p := ⟨gb397, 2, none⟩) (Kd.R_far (p := ⟨gb397, 1, none⟩) (Kd.R_far (p := ⟨gb397, 0, none⟩) (Kd.R_types HO396.out BK397.out (by decide)) (fun _ hk => hk.2) (.slice Ao51 t382.length co51)) (fun _ hk => hk.2) (.slice Ao54 t385.length co54)) (fun _ hk => hk.2) (.slice Ao55 t388.length co55)) (fun _ hk => hk.2) (.slice Ao56 t391.length co56)) (fun _ hk => hk.2) (.slice Ao57 t394.length co57)) (fun _ h_ => h_.1))) hb); have n10_ := zK (zg (g := gb364) (o := .cells #[.slice A0_0 l0_0.length c0_0, .slice A0_1 l0_1.length c0_1, .slice A0_2 l0_2.length c0_2, .slice A0_3 l0_3.length c0_3, .slice A0_4 l0_4.length c0_4] 64 (0, 0)) (by (with_reducible repeat (first | refine zn ?_ _ | refine zd ?_ | refine za ?_ _)); refine blk_far ?_ NB364_397.out _; (with_reducible repeat (first | refine zn ?_ _ | refine zd ?_ | refine za ?_ _)); refine blk_far ?_ NB364_397.out _; (with_reducible repeat (first | refine zn ?_ _ | refine zd ?_ | refine za ?_ _)); refine blk_far ?_ NB364_397.out _; (with_reducible repeat (first | refine zn ?_ _ | refine zd ?_ | refine za ?_ _)); refine blk_far ?_ NB364_397.out _; (with_reducible repeat (first | refine zn ?_ _ | refine zd ?_ | refine za ?_ _)); refine blk_far ?_ NB364_397.out _; (with_reducible repeat (first | refine zn ?_ _ | refine zd ?_ | refine za ?_ _)); exact BK364.out) hb); have n11_ := zK (zg (g := gb397) (o := .cells #[.slice Ao51 t382.length co51, .slice Ao54 t385.length co54, .slice Ao55 t388.length co55, .slice Ao56 t391.length co56, .slice Ao57 t394.length co57] 70 (0, 0)) (by (with_reducible repeat (first | refine zn ?_ _ | refine zd ?_ | refine za ?_ _)); refine blk_put (cs := #[.slice Ao51 t382.length co51, .slice Ao54 t385.length co54, .slice Ao55 t388.length co55, .slice Ao56 t391.length co56, .slice none 0 0]) ?_ 4 _ rfl; (with_reducible repeat (first | refine zn ?_ _ | refine zd ?_ | refine za ?_ _)); refine blk_put (cs := #[.slice Ao51 t382.length co51, .slice Ao54 t385.length co54, .slice Ao55 t388.length co55, .slice none 0 0, .slice none 0 0]) ?_ 3 _ rfl; (with_reducible repeat (first | refine zn ?_ _ | refine zd ?_ | refine za ?_ _)); refine blk_put (cs := #[.slice Ao51 t382.length co51, .slice Ao54 t385.length co54, .slice none 0 0, .slice none 0 0, .slice none 0 0]) ?_ 2 _ rfl; (with_reducible repeat (first | refine zn ?_ _ | refine zd ?_ | refine za ?_ _)); refine blk_put (cs := #[.slice Ao51 t382.length co51, .slice none 0 0, .slice none 0 0, .slice none 0 0, .slice none 0 0]) ?_ 1 _ rfl; (with_reducible repeat (first | refine zn ?_ _ | refine zd ?_ | refine za ?_ _)); refine blk_put (cs := #[.slice none 0 0, .slice none 0 0, .slice none 0 0, .slice none 0 0, .slice none 0 0]) ?_ 0 _ rfl; (with_reducible repeat (first | refine zn ?_ _ | refine zd ?_ | refine za ?_ _)); exact BK397.out) hb); have n12_ := zK (zp zB hb); clear HO368; clear HO371; clear HO374; clear HO377; clear HO380; clear HO384; clear HO387; clear HO390; clear HO393; clear HO396; clear BK364; clear BK397; clear HB; have HO368 := n0_; have HO371 := n1_; have HO374 := n2_; have HO377 := n3_; have HO380 := n4_; have HO384 := n5_; have HO387 := n6_; have HO390 := n7_; have HO393 := n8_; have HO396 := n9_; have BK364 := n10_; have BK397 := n11_; have HB := n12_; clear n0_ n1_ n2_ n3_ n4_ n5_ n6_ n7_ n8_ n9_ n10_ n11_ n12_; (try clear hb); (try clear hb2); (try clear hk); (try clear hi)))
    have n0_ := zK (Kd.R_drew HO368.out)
    have n1_ := zK (Kd.R_drew HO371.out)
    have n2_ := zK (Kd.S_drew HO374.out)
    have n3_ := zK (Kd.R_drew HO377.out)
    have n4_ := zK (Kd.R_drew HO380.out)
    have n5_ := zK (Kd.R_drew HO384.out)
    have n6_ := zK (Kd.R_drew HO387.out)
    have n7_ := zK (Kd.S_drew HO390.out)
    have n8_ := zK (Kd.R_drew HO393.out)
    have n9_ := zK (Kd.R_drew HO396.out)
    have n10_ := zK (zd BK364.out)
    have n11_ := zK (zd BK397.out)
    have n12_ := zK (ze HB.out)
    clear HO368
    clear HO371
    clear HO374
    clear HO377
    clear HO380
    clear HO384
    clear HO387
    clear HO390
    clear HO393
    clear HO396
    clear BK364
    clear BK397
    clear HB
    have HO368 := n0_
    have HO371 := n1_
    have HO374 := n2_
    have HO377 := n3_
    have HO380 := n4_
    have HO384 := n5_
    have HO387 := n6_
    have HO390 := n7_
    have HO393 := n8_
    have HO396 := n9_
    have BK364 := n10_
    have BK397 := n11_
    have HB := n12_
    clear n0_ n1_ n2_ n3_ n4_ n5_ n6_ n7_ n8_ n9_ n10_ n11_ n12_
    refine start_ (n := 5) (S := fun w' => w'.cell? ⟨gb397, 0, none⟩ = some (.slice Ao51 t382.length co51) ∧ w'.cell? ⟨gb397, 1, none⟩ = some (.slice Ao54 t385.length co54) ∧ w'.cell? ⟨gb397, 2, none⟩ = some (.slice Ao55 t388.length co55) ∧ w'.cell? ⟨gb397, 3, none⟩ = some (.slice Ao56 t391.length co56) ∧ w'.cell? ⟨gb397, 4, none⟩ = some (.slice Ao57 t394.length co57) ∧ w'.cell? ⟨gb364, 0, none⟩ = some (.slice A0_0 l0_0.length c0_0) ∧ w'.cell? ⟨gb364, 1, none⟩ = some (.slice A0_1 l0_1.length c0_1) ∧ w'.cell? ⟨gb364, 2, none⟩ = some (.slice A0_2 l0_2.length c0_2) ∧ w'.cell? ⟨gb364, 3, none⟩ = some (.slice A0_3 l0_3.length c0_3) ∧ w'.cell? ⟨gb364, 4, none⟩ = some (.slice A0_4 l0_4.length c0_4)) (ds := []) (bl 5 0) (by kernel_rfl) rfl (by kernel_rfl) ⟨zy BK397 0, zy BK397 1, zy BK397 2, zy BK397 3, zy BK397 4, zy BK364 0, zy BK364 1, zy BK364 2, zy BK364 3, zy BK364 4⟩ (fun hHeld => ?_)
    generalize w58.drew = w59 at HO368 HO371 HO374 HO377 HO380 HO384 HO387 HO390 HO393 HO396 BK364 BK397 HB hHeld ⊢
    refine take_ (i := 0) (N := some 22) (v := ?_) (a' := ?_) (bl 5 1) rfl rfl (by kernel_rfl) (fun _ _ _ h => h) (Or.inl ⟨by rfl, ?_⟩) hHeld ?_ ?_
    rotate_left
    · rintro w' ⟨s0, s1, s2, s3, s4, s5, s6, s7, s8, s9⟩
      go_simp
      with_reducible rfl
    rotate_left
    · simp only [Act.put, zq1, zq2, zq3, i64_w, i32_w]
      rfl
    refine take_ (i := 1) (N := some 23) (v := ?_) (a' := ?_) (bl 5 3) rfl rfl (by kernel_rfl) (fun _ _ _ h => h) (Or.inl ⟨by rfl, ?_⟩) hHeld ?_ ?_
    rotate_left
    · rintro w' ⟨s0, s1, s2, s3, s4, s5, s6, s7, s8, s9⟩
      go_simp
      with_reducible rfl
    rotate_left
    · simp only [Act.put, zq1, zq2, zq3, i64_w, i32_w]
      rfl
    refine one_ (i := 2) (N := some 24) (bl 5 7) rfl rfl (by kernel_rfl) (by decide) (fun K hK => ?_)
    refine goes_ Try.func33 (by kernel_rfl) rfl #[.agg #[.slice A0_0 l0_0.length c0_0, .slice A0_1 l0_1.length c0_1, .slice A0_2 l0_2.length c0_2, .slice A0_3 l0_3.length c0_3, .slice A0_4 l0_4.length c0_4]] (by rfl) rfl rfl zL ?_
    with_reducible refine (laws_toNest.calls k _ _ l0_0 _ _ l0_1 _ _ l0_2 _ _ l0_3 _ _ l0_4 t399 t402 t405 t408 t411 _ ?side1 ?side2 ?side3 ?side4 ?side5 ?side6 ?side7 ?side8 ?side9 ?side10 A34.out).mono ?_
    (case side1 => exact zC (Kd.C_below HR0_0.out HB.out))
    (case side2 => exact HC0_0.out)
    (case side3 => exact zC (Kd.C_below HR0_1.out HB.out))
    (case side4 => exact HC0_1.out)
    (case side5 => exact zC (Kd.C_below HR0_2.out HB.out))
    (case side6 => exact HC0_2.out)
    (case side7 => exact zC (Kd.C_below HR0_3.out HB.out))
    (case side8 => exact HC0_3.out)
    (case side9 => exact zC (Kd.C_below HR0_4.out HB.out))
    (case side10 => exact HC0_4.out)
    rintro e w60 ⟨v400, v403, v406, v409, v412, rfl, ho0, ho1, ho2, ho3, ho4, hb⟩
    refine ⟨_, rfl, ?_⟩
    have n0_ := zK (Kd.R_mono (Kd.R_told (Kd.R_told (Kd.R_told (Kd.R_old (zkR HO368) hb) (Kd.R_base ho0)) (Kd.R_base ho1)) (Kd.R_base ho4)) (fun _ h_ => h_.1))
    have n1_ := zK (Kd.R_mono (Kd.R_told (Kd.R_told (Kd.R_told (Kd.R_old (zkR HO371) hb) (Kd.R_base ho0)) (Kd.R_base ho1)) (Kd.R_base ho4)) (fun _ h_ => h_.1))
    have n2_ := zK (Kd.S_mono (Kd.S_told (Kd.S_told (Kd.S_told (Kd.S_told (Kd.S_old (zkS HO374) hb) (Kd.R_base ho0)) (Kd.R_base ho1)) (Kd.S_base ho2)) (Kd.R_base ho4)) (fun _ h_ => h_.1))
    have n3_ := zK (Kd.R_mono (Kd.R_told (Kd.R_told (Kd.R_told (Kd.R_told (Kd.R_old (zkR HO377) hb) (Kd.R_base ho0)) (Kd.R_base ho1)) (Kd.R_base ho3)) (Kd.R_base ho4)) (fun _ h_ => h_.1))
    have n4_ := zK (Kd.R_mono (Kd.R_told (Kd.R_told (Kd.R_told (Kd.R_old (zkR HO380) hb) (Kd.R_base ho0)) (Kd.R_base ho1)) (Kd.R_base ho4)) (fun _ h_ => h_.1))
    have n5_ := zK (Kd.R_mono (Kd.R_told (Kd.R_told (Kd.R_told (Kd.R_old (zkR HO384) hb) (Kd.R_base ho0)) (Kd.R_base ho1)) (Kd.R_base ho4)) (fun _ h_ => h_.1))
    have n6_ := zK (Kd.R_mono (Kd.R_told (Kd.R_told (Kd.R_told (Kd.R_old (zkR HO387) hb) (Kd.R_base ho0)) (Kd.R_base ho1)) (Kd.R_base ho4)) (fun _ h_ => h_.1))
    have n7_ := zK (Kd.S_mono (Kd.S_told (Kd.S_told (Kd.S_told (Kd.S_told (Kd.S_old (zkS HO390) hb) (Kd.R_base ho0)) (Kd.R_base ho1)) (Kd.S_base ho2)) (Kd.R_base ho4)) (fun _ h_ => h_.1))
    have n8_ := zK (Kd.R_mono (Kd.R_told (Kd.R_told (Kd.R_told (Kd.R_told (Kd.R_old (zkR HO393) hb) (Kd.R_base ho0)) (Kd.R_base ho1)) (Kd.R_base ho3)) (Kd.R_base ho4)) (fun _ h_ => h_.1))
    have n9_ := zK (Kd.R_mono (Kd.R_told (Kd.R_told (Kd.R_told (Kd.R_old (zkR HO396) hb) (Kd.R_base ho0)) (Kd.R_base ho1)) (Kd.R_base ho4)) (fun _ h_ => h_.1))
    have n10_ := zK (Kd.R_lower (Kd.R_new' (Kd.R_new' (Kd.R_new' (Kd.R_new' (Kd.R_new' (Kd.R_new' ho0 (Kd.R_lt (zkR HO368))) (Kd.R_lt (zkR HO371))) (Kd.R_lt (zkR HO380))) (Kd.R_lt (zkR HO384))) (Kd.R_lt (zkR HO387))) (Kd.R_lt (zkR HO396))) (zz zB))
    have n11_ := zK (Kd.R_lower (Kd.R_new' (Kd.R_new' (Kd.R_new' (Kd.R_new' (Kd.R_new' (Kd.R_new' ho1 (Kd.R_lt (zkR HO368))) (Kd.R_lt (zkR HO371))) (Kd.R_lt (zkR HO380))) (Kd.R_lt (zkR HO384))) (Kd.R_lt (zkR HO387))) (Kd.R_lt (zkR HO396))) (zz zB))
    have n12_ := zK (Kd.S_lower (Kd.S_new' (Kd.S_new' (Kd.S_new' (Kd.S_new' (Kd.S_new' (Kd.S_new' (Kd.S_new' (Kd.S_new' ho2 (Kd.R_lt (zkR HO368))) (Kd.R_lt (zkR HO371))) (Kd.S_lt (zkS HO374))) (Kd.R_lt (zkR HO380))) (Kd.R_lt (zkR HO384))) (Kd.R_lt (zkR HO387))) (Kd.S_lt (zkS HO390))) (Kd.R_lt (zkR HO396))) (zz zB))
    have n13_ := zK (Kd.R_lower (Kd.R_new' (Kd.R_new' (Kd.R_new' (Kd.R_new' (Kd.R_new' (Kd.R_new' (Kd.R_new' (Kd.R_new' ho3 (Kd.R_lt (zkR HO368))) (Kd.R_lt (zkR HO371))) (Kd.R_lt (zkR HO377))) (Kd.R_lt (zkR HO380))) (Kd.R_lt (zkR HO384))) (Kd.R_lt (zkR HO387))) (Kd.R_lt (zkR HO393))) (Kd.R_lt (zkR HO396))) (zz zB))
    have n14_ := zK (Kd.R_lower (Kd.R_new' (Kd.R_new' (Kd.R_new' (Kd.R_new' (Kd.R_new' (Kd.R_new' ho4 (Kd.R_lt (zkR HO368))) (Kd.R_lt (zkR HO371))) (Kd.R_lt (zkR HO380))) (Kd.R_lt (zkR HO384))) (Kd.R_lt (zkR HO387))) (Kd.R_lt (zkR HO396))) (zz zB))
    have n15_ := zK (zg (zM BK364) hb)
    have n16_ := zK (zg (zM BK397) hb)
    have n17_ := zK (zp zB hb)
    clear HO368
    clear HO371
    clear HO374
    clear HO377
    clear HO380
    clear HO384
    clear HO387
    clear HO390
    clear HO393
    clear HO396
    clear BK364
    clear BK397
    clear HB
    have HO368 := n0_
    have HO371 := n1_
    have HO374 := n2_
    have HO377 := n3_
    have HO380 := n4_
    have HO384 := n5_
    have HO387 := n6_
    have HO390 := n7_
    have HO393 := n8_
    have HO396 := n9_
    have HO401 := n10_
    have HO404 := n11_
    have HO407 := n12_
    have HO410 := n13_
    have HO413 := n14_
    have BK364 := n15_
    have BK397 := n16_
    have HB := n17_
    clear n0_ n1_ n2_ n3_ n4_ n5_ n6_ n7_ n8_ n9_ n10_ n11_ n12_ n13_ n14_ n15_ n16_ n17_
    (try clear hb)
    (try clear hb2)
    (try clear hk)
    (try clear hi)
    (try clear ho0)
    (try clear ho1)
    (try clear ho2)
    (try clear ho3)
    (try clear ho4)
    obtain ⟨Ao61, co61, eo61⟩ := Kd.R_slice HO401.out
    (first | subst eo61 | (injection eo61 with f1_ f2_ f3_; have f4_ := f1_.symm; have f5_ := f3_.symm; clear f1_ f2_ f3_; subst f4_; subst f5_))
    obtain ⟨Ao62, co62, eo62⟩ := Kd.R_slice HO404.out
    (first | subst eo62 | (injection eo62 with f1_ f2_ f3_; have f4_ := f1_.symm; have f5_ := f3_.symm; clear f1_ f2_ f3_; subst f4_; subst f5_))
    obtain ⟨Ao63, co63, eo63⟩ := Kd.S_slice HO407.out
    (first | subst eo63 | (injection eo63 with f1_ f2_ f3_; have f4_ := f1_.symm; have f5_ := f3_.symm; clear f1_ f2_ f3_; subst f4_; subst f5_))
    obtain ⟨Ao64, co64, eo64⟩ := Kd.R_slice HO410.out
    (first | subst eo64 | (injection eo64 with f1_ f2_ f3_; have f4_ := f1_.symm; have f5_ := f3_.symm; clear f1_ f2_ f3_; subst f4_; subst f5_))
    obtain ⟨Ao65, co65, eo65⟩ := Kd.R_slice HO413.out
    (first | subst eo65 | (injection eo65 with f1_ f2_ f3_; have f4_ := f1_.symm; have f5_ := f3_.symm; clear f1_ f2_ f3_; subst f4_; subst f5_))
    refine hK.out _ _ ⟨zy BK397 0, zy BK397 1, zy BK397 2, zy BK397 3, zy BK397 4, zy BK364 0, zy BK364 1, zy BK364 2, zy BK364 3, zy BK364 4⟩ (fun hHeld => ?_)
    clear hK K
    refine zU 24 ?_
    refine one_ (i := 3) (N := some 25) (bl 5 15) rfl rfl (by kernel_rfl) (by decide) (fun K hK => ?_)
    refine goes_ Try.func35 (by kernel_rfl) rfl #[.agg #[.slice Ao51 t382.length co51, .slice Ao54 t385.length co54, .slice Ao55 t388.length co55, .slice Ao56 t391.length co56, .slice Ao57 t394.length co57], .agg #[.slice Ao61 t399.length co61, .slice Ao62 t402.length co62, .slice Ao63 t405.length co63, .slice Ao64 t408.length co64, .slice Ao65 t411.length co65]] (by rfl) rfl rfl zL ?_
    with_reducible refine (laws_eqNest.calls k _ _ t382 _ _ t385 _ _ t388 _ _ t391 _ _ t394 _ _ t399 _ _ t402 _ _ t405 _ _ t408 _ _ t411 true _ ?side1 ?side2 ?side3 ?side4 ?side5 ?side6 ?side7 ?side8 ?side9 ?side10 ?side11 ?side12 ?side13 ?side14 ?side15 ?side16 ?side17 ?side18 ?side19 ?side20 A35.out).mono ?_
    (case side1 => exact zC (Kd.R_reads' HO384.out).2.2)
    (case side2 => exact (Kd.R_reads' HO384.out).2.1)
    (case side3 => exact zC (Kd.R_reads' HO387.out).2.2)
    (case side4 => exact (Kd.R_reads' HO387.out).2.1)
    (case side5 => exact zC (Kd.S_reads' HO390.out).2.2)
    (case side6 => exact (Kd.S_reads' HO390.out).2.1)
    (case side7 => exact zC (Kd.R_reads' HO393.out).2.2)
    (case side8 => exact (Kd.R_reads' HO393.out).2.1)
    (case side9 => exact zC (Kd.R_reads' HO396.out).2.2)
    (case side10 => exact (Kd.R_reads' HO396.out).2.1)
    (case side11 => exact zC (Kd.R_reads' HO401.out).2.2)
    (case side12 => exact (Kd.R_reads' HO401.out).2.1)
    (case side13 => exact zC (Kd.R_reads' HO404.out).2.2)
    (case side14 => exact (Kd.R_reads' HO404.out).2.1)
    (case side15 => exact zC (Kd.S_reads' HO407.out).2.2)
    (case side16 => exact (Kd.S_reads' HO407.out).2.1)
    (case side17 => exact zC (Kd.R_reads' HO410.out).2.2)
    (case side18 => exact (Kd.R_reads' HO410.out).2.1)
    (case side19 => exact zC (Kd.R_reads' HO413.out).2.2)
    (case side20 => exact (Kd.R_reads' HO413.out).2.1)
    rintro e w66 ⟨rfl, hb⟩
    refine ⟨_, rfl, ?_⟩
    have n0_ := zK (Kd.R_below (zkR HO368) hb)
    have n1_ := zK (Kd.R_below (zkR HO371) hb)
    have n2_ := zK (Kd.S_below (zkS HO374) hb)
    have n3_ := zK (Kd.R_below (zkR HO377) hb)
    have n4_ := zK (Kd.R_below (zkR HO380) hb)
    have n5_ := zK (Kd.R_below (zkR HO384) hb)
    have n6_ := zK (Kd.R_below (zkR HO387) hb)
    have n7_ := zK (Kd.S_below (zkS HO390) hb)
    have n8_ := zK (Kd.R_below (zkR HO393) hb)
    have n9_ := zK (Kd.R_below (zkR HO396) hb)
    have n10_ := zK (Kd.R_below (zkR HO401) hb)
    have n11_ := zK (Kd.R_below (zkR HO404) hb)
    have n12_ := zK (Kd.S_below (zkS HO407) hb)
    have n13_ := zK (Kd.R_below (zkR HO410) hb)
    have n14_ := zK (Kd.R_below (zkR HO413) hb)
    have n15_ := zK (zg (zM BK364) hb)
    have n16_ := zK (zg (zM BK397) hb)
    have n17_ := zK (zp zB hb)
    clear HO368
    clear HO371
    clear HO374
    clear HO377
    clear HO380
    clear HO384
    clear HO387
    clear HO390
    clear HO393
    clear HO396
    clear HO401
    clear HO404
    clear HO407
    clear HO410
    clear HO413
    clear BK364
    clear BK397
    clear HB
    have HO368 := n0_
    have HO371 := n1_
    have HO374 := n2_
    have HO377 := n3_
    have HO380 := n4_
    have HO384 := n5_
    have HO387 := n6_
    have HO390 := n7_
    have HO393 := n8_
    have HO396 := n9_
    have HO401 := n10_
    have HO404 := n11_
    have HO407 := n12_
    have HO410 := n13_
    have HO413 := n14_
    have BK364 := n15_
    have BK397 := n16_
    have HB := n17_
    clear n0_ n1_ n2_ n3_ n4_ n5_ n6_ n7_ n8_ n9_ n10_ n11_ n12_ n13_ n14_ n15_ n16_ n17_
    (try clear hb)
    (try clear hb2)
    (try clear hk)
    (try clear hi)
    refine hK.out _ _ ⟨zy BK397 0, zy BK397 1, zy BK397 2, zy BK397 3, zy BK397 4, zy BK364 0, zy BK364 1, zy BK364 2, zy BK364 3, zy BK364 4⟩ (fun hHeld => ?_)
    clear hK K
    refine zU 25 ?_
    refine pure_ (i := 4) (N := some 26) (v := ?_) (a' := ?_) (bl 5 31) rfl rfl (by kernel_rfl) (fun _ _ _ h => h) (Or.inl ⟨by rfl, ?_⟩) ?_ ?_
    rotate_left
    · intro w'
      go_simp
      with_reducible rfl
    rotate_left
    · simp only [Act.put, zq1, zq2, zq3, i64_w, i32_w]
      rfl
    refine done_ (by kernel_rfl) ?_
    try go_wp2
    go_ret
    exact ⟨zE, zB⟩
  replace c36 := Bool.eq_false_iff.mpr c36
  subst c36
  have H1 : (some false) = some r := by rw [if_neg (show ¬ (false = true) by decide)] at H; exact H
  clear H
  have H := H1
  clear H1
  obtain rfl := Option.some.inj H
  go_enter Try.func5, Try.ntmps5
  try go_wp2_with (first | ((with_reducible refine gate_dst (N := 1) rfl ?_); refine zJ 1 #[.slice A0_0 l0_0.length c0_0, .slice A0_1 l0_1.length c0_1, .slice A0_2 l0_2.length c0_2, .slice A0_3 l0_3.length c0_3, .slice A0_4 l0_4.length c0_4] 64 ?_; intro gb364 hg w67 hbox hb; have n0_ := zK (zp zB hb); have n1_ := zK (hbox); have n2_ := zK (zI hg zB); have n3_ := zK (zI hg zB); clear HB; have HB := n0_; have BK364 := n1_; have GW364 := n2_; have GE364 := n3_; clear n0_ n1_ n2_ n3_; clear hb hbox hg; obtain ⟨hcz68_0, hcz68_1, hcz68_2, hcz68_3, hcz68_4, hfz68_0, hfz68_1, hfz68_2, hfz68_3, hfz68_4⟩ := zc5 BK364) | ((with_reducible refine gate_callee (f := 31) rfl ?_); refine zF 9 Try.func31 #[.agg #[.slice A0_0 l0_0.length c0_0, .slice A0_1 l0_1.length c0_1, .slice A0_2 l0_2.length c0_2, .slice A0_3 l0_3.length c0_3, .slice A0_4 l0_4.length c0_4], .int .i64 1048576] rfl zL ?_; (with_reducible refine (laws_szNest.calls k _ _ l0_0 _ _ l0_1 _ _ l0_2 _ _ l0_3 _ _ l0_4 1048576 t365 _ ?side1 ?side2 ?side3 ?side4 ?side5 ?side6 ?side7 ?side8 ?side9 ?side10 A2.out).mono ?_); (case side1 => exact zC (Kd.C_below HR0_0.out HB.out)); (case side2 => exact HC0_0.out); (case side3 => exact zC (Kd.C_below HR0_1.out HB.out)); (case side4 => exact HC0_1.out); (case side5 => exact zC (Kd.C_below HR0_2.out HB.out)); (case side6 => exact HC0_2.out); (case side7 => exact zC (Kd.C_below HR0_3.out HB.out)); (case side8 => exact HC0_3.out); (case side9 => exact zC (Kd.C_below HR0_4.out HB.out)); (case side10 => exact HC0_4.out); rintro e w69 ⟨rfl, hb⟩; refine ⟨_, rfl, ?_⟩; have n0_ := zK (zg (zM BK364) hb); have n1_ := zK (zp zB hb); clear BK364; clear HB; have BK364 := n0_; have HB := n1_; clear n0_ n1_; (try clear hb); (try clear hb2); (try clear hk); (try clear hi); obtain ⟨hcz70_0, hcz70_1, hcz70_2, hcz70_3, hcz70_4, hfz70_0, hfz70_1, hfz70_2, hfz70_3, hfz70_4⟩ := zc5 BK364) | ((with_reducible refine gate_callee (f := 33) rfl ?_); refine zF 13 Try.func33 #[.agg #[.slice A0_0 l0_0.length c0_0, .slice A0_1 l0_1.length c0_1, .slice A0_2 l0_2.length c0_2, .slice A0_3 l0_3.length c0_3, .slice A0_4 l0_4.length c0_4]] rfl zL ?_; (with_reducible refine (laws_toNest.calls k _ _ l0_0 _ _ l0_1 _ _ l0_2 _ _ l0_3 _ _ l0_4 t366 t369 t372 t375 t378 _ ?side1 ?side2 ?side3 ?side4 ?side5 ?side6 ?side7 ?side8 ?side9 ?side10 A7.out).mono ?_); (case side1 => exact zC (Kd.C_below HR0_0.out HB.out)); (case side2 => exact HC0_0.out); (case side3 => exact zC (Kd.C_below HR0_1.out HB.out)); (case side4 => exact HC0_1.out); (case side5 => exact zC (Kd.C_below HR0_2.out HB.out)); (case side6 => exact HC0_2.out); (case side7 => exact zC (Kd.C_below HR0_3.out HB.out)); (case side8 => exact HC0_3.out); (case side9 => exact zC (Kd.C_below HR0_4.out HB.out)); (case side10 => exact HC0_4.out); rintro e w71 ⟨v367, v370, v373, v376, v379, rfl, ho0, ho1, ho2, ho3, ho4, hb⟩; refine ⟨_, rfl, ?_⟩; have n0_ := zK (Kd.R_lower ho0 (zz zB)); have n1_ := zK (Kd.R_lower ho1 (zz zB)); have n2_ := zK (Kd.S_lower ho2 (zz zB)); have n3_ := zK (Kd.R_lower ho3 (zz zB)); have n4_ := zK (Kd.R_lower ho4 (zz zB)); have n5_ := zK (zg (zM BK364) hb); have n6_ := zK (zp zB hb); clear BK364; clear HB; have HO368 := n0_; have HO371 := n1_; have HO374 := n2_; have HO377 := n3_; have HO380 := n4_; have BK364 := n5_; have HB := n6_; clear n0_ n1_ n2_ n3_ n4_ n5_ n6_; (try clear hb); (try clear hb2); (try clear hk); (try clear hi); (try clear ho0); (try clear ho1); (try clear ho2); (try clear ho3); (try clear ho4); obtain ⟨Ao72, co72, eo72⟩ := Kd.R_slice HO368.out; subst eo72; obtain ⟨Ao73, co73, eo73⟩ := Kd.R_slice HO371.out; subst eo73; obtain ⟨Ao74, co74, eo74⟩ := Kd.S_slice HO374.out; subst eo74; obtain ⟨Ao75, co75, eo75⟩ := Kd.R_slice HO377.out; subst eo75; obtain ⟨Ao76, co76, eo76⟩ := Kd.R_slice HO380.out; subst eo76) | ((with_reducible refine gate_callee (f := 32) rfl ?_); refine zF 14 Try.func32 #[.agg #[.slice Ao72 t366.length co72, .slice Ao73 t369.length co73, .slice Ao74 t372.length co74, .slice Ao75 t375.length co75, .slice Ao76 t378.length co76]] rfl zL ?_; (with_reducible refine (spec_NestOk.calls k _ _ t366 _ _ t369 _ _ t372 _ _ t375 _ _ t378 t381 _ ?side1 ?side2 ?side3 ?side4 ?side5 ?side6 ?side7 ?side8 ?side9 ?side10 A8.out).mono ?_); (case side1 => exact zC (Kd.R_reads' HO368.out).2.2); (case side2 => exact (Kd.R_reads' HO368.out).2.1); (case side3 => exact zC (Kd.R_reads' HO371.out).2.2); (case side4 => exact (Kd.R_reads' HO371.out).2.1); (case side5 => exact zC (Kd.S_reads' HO374.out).2.2); (case side6 => exact (Kd.S_reads' HO374.out).2.1); (case side7 => exact zC (Kd.R_reads' HO377.out).2.2); (case side8 => exact (Kd.R_reads' HO377.out).2.1); (case side9 => exact zC (Kd.R_reads' HO380.out).2.2); (case side10 => exact (Kd.R_reads' HO380.out).2.1); rintro e w77 ⟨rfl, hb⟩; refine ⟨_, rfl, ?_⟩; have n0_ := zK (Kd.R_below (zkR HO368) hb); have n1_ := zK (Kd.R_below (zkR HO371) hb); have n2_ := zK (Kd.S_below (zkS HO374) hb); have n3_ := zK (Kd.R_below (zkR HO377) hb); have n4_ := zK (Kd.R_below (zkR HO380) hb); have n5_ := zK (zg (zM BK364) hb); have n6_ := zK (zp zB hb); clear HO368; clear HO371; clear HO374; clear HO377; clear HO380; clear BK364; clear HB; have HO368 := n0_; have HO371 := n1_; have HO374 := n2_; have HO377 := n3_; have HO380 := n4_; have BK364 := n5_; have HB := n6_; clear n0_ n1_ n2_ n3_ n4_ n5_ n6_; (try clear hb); (try clear hb2); (try clear hk); (try clear hi); obtain ⟨hcz78_0, hcz78_1, hcz78_2, hcz78_3, hcz78_4, hfz78_0, hfz78_1, hfz78_2, hfz78_3, hfz78_4⟩ := zc5 BK364) | ((with_reducible refine gate_callee (f := 33) rfl ?_); refine zF 16 Try.func33 #[.agg #[.slice A0_0 l0_0.length c0_0, .slice A0_1 l0_1.length c0_1, .slice A0_2 l0_2.length c0_2, .slice A0_3 l0_3.length c0_3, .slice A0_4 l0_4.length c0_4]] rfl zL ?_; (with_reducible refine (laws_toNest.calls k _ _ l0_0 _ _ l0_1 _ _ l0_2 _ _ l0_3 _ _ l0_4 t382 t385 t388 t391 t394 _ ?side1 ?side2 ?side3 ?side4 ?side5 ?side6 ?side7 ?side8 ?side9 ?side10 A9.out).mono ?_); (case side1 => exact zC (Kd.C_below HR0_0.out HB.out)); (case side2 => exact HC0_0.out); (case side3 => exact zC (Kd.C_below HR0_1.out HB.out)); (case side4 => exact HC0_1.out); (case side5 => exact zC (Kd.C_below HR0_2.out HB.out)); (case side6 => exact HC0_2.out); (case side7 => exact zC (Kd.C_below HR0_3.out HB.out)); (case side8 => exact HC0_3.out); (case side9 => exact zC (Kd.C_below HR0_4.out HB.out)); (case side10 => exact HC0_4.out); rintro e w79 ⟨v383, v386, v389, v392, v395, rfl, ho0, ho1, ho2, ho3, ho4, hb⟩; refine ⟨_, rfl, ?_⟩; have n0_ := zK (Kd.R_mono (Kd.R_told (Kd.R_told (Kd.R_told (Kd.R_old (zkR HO368) hb) (Kd.R_base ho0)) (Kd.R_base ho1)) (Kd.R_base ho4)) (fun _ h_ => h_.1)); have n1_ := zK (Kd.R_mono (Kd.R_told (Kd.R_told (Kd.R_told (Kd.R_old (zkR HO371) hb) (Kd.R_base ho0)) (Kd.R_base ho1)) (Kd.R_base ho4)) (fun _ h_ => h_.1)); have n2_ := zK (Kd.S_mono (Kd.S_told (Kd.S_told (Kd.S_told (Kd.S_told (Kd.S_old (zkS HO374) hb) (Kd.R_base ho0)) (Kd.R_base ho1)) (Kd.S_base ho2)) (Kd.R_base ho4)) (fun _ h_ => h_.1)); have n3_ := zK (Kd.R_mono (Kd.R_told (Kd.R_told (Kd.R_told (Kd.R_told (Kd.R_old (zkR HO377) hb) (Kd.R_base ho0)) (Kd.R_base ho1)) (Kd.R_base ho3)) (Kd.R_base ho4)) (fun _ h_ => h_.1)); have n4_ := zK (Kd.R_mono (Kd.R_told (Kd.R_told (Kd.R_told (Kd.R_old (zkR HO380) hb) (Kd.R_base ho0)) (Kd.R_base ho1)) (Kd.R_base ho4)) (fun _ h_ => h_.1)); have n5_ := zK (Kd.R_lower (Kd.R_new' (Kd.R_new' (Kd.R_new' ho0 (Kd.R_lt (zkR HO368))) (Kd.R_lt (zkR HO371))) (Kd.R_lt (zkR HO380))) (zz zB)); have n6_ := zK (Kd.R_lower (Kd.R_new' (Kd.R_new' (Kd.R_new' ho1 (Kd.R_lt (zkR HO368))) (Kd.R_lt (zkR HO371))) (Kd.R_lt (zkR HO380))) (zz zB)); have n7_ := zK (Kd.S_lower (Kd.S_new' (Kd.S_new' (Kd.S_new' (Kd.S_new' ho2 (Kd.R_lt (zkR HO368))) (Kd.R_lt (zkR HO371))) (Kd.S_lt (zkS HO374))) (Kd.R_lt (zkR HO380))) (zz zB)); have n8_ := zK (Kd.R_lower (Kd.R_new' (Kd.R_new' (Kd.R_new' (Kd.R_new' ho3 (Kd.R_lt (zkR HO368))) (Kd.R_lt (zkR HO371))) (Kd.R_lt (zkR HO377))) (Kd.R_lt (zkR HO380))) (zz zB)); have n9_ := zK (Kd.R_lower (Kd.R_new' (Kd.R_new' (Kd.R_new' ho4 (Kd.R_lt (zkR HO368))) (Kd.R_lt (zkR HO371))) (Kd.R_lt (zkR HO380))) (zz zB)); have n10_ := zK (zg (zM BK364) hb); have n11_ := zK (zp zB hb); clear HO368; clear HO371; clear HO374; clear HO377; clear HO380; clear BK364; clear HB; have HO368 := n0_; have HO371 := n1_; have HO374 := n2_; have HO377 := n3_; have HO380 := n4_; have HO384 := n5_; have HO387 := n6_; have HO390 := n7_; have HO393 := n8_; have HO396 := n9_; have BK364 := n10_; have HB := n11_; clear n0_ n1_ n2_ n3_ n4_ n5_ n6_ n7_ n8_ n9_ n10_ n11_; (try clear hb); (try clear hb2); (try clear hk); (try clear hi); (try clear ho0); (try clear ho1); (try clear ho2); (try clear ho3); (try clear ho4)) | ((with_reducible refine gate_dst (N := 5) rfl ?_); refine zJ 5 #[.slice none 0 0, .slice none 0 0, .slice none 0 0, .slice none 0 0, .slice none 0 0] 70 ?_; intro gb397 hg w80 hbox hb; have n0_ := zK (Kd.R_below (zkR HO368) hb); have n1_ := zK (Kd.R_below (zkR HO371) hb); have n2_ := zK (Kd.S_below (zkS HO374) hb); have n3_ := zK (Kd.R_below (zkR HO377) hb); have n4_ := zK (Kd.R_below (zkR HO380) hb); have n5_ := zK (Kd.R_below (zkR HO384) hb); have n6_ := zK (Kd.R_below (zkR HO387) hb); have n7_ := zK (Kd.S_below (zkS HO390) hb); have n8_ := zK (Kd.R_below (zkR HO393) hb); have n9_ := zK (Kd.R_below (zkR HO396) hb); have n10_ := zK (zg (zM BK364) hb); have n11_ := zK (zp zB hb); have n12_ := zK (hbox); have n13_ := zK (zI hg zB); have n14_ := zK (zI hg zB); have n15_ := zK (zH hg (zM BK364)); have n16_ := zK (zG hg (zM BK364)); clear HO368; clear HO371; clear HO374; clear HO377; clear HO380; clear HO384; clear HO387; clear HO390; clear HO393; clear HO396; clear BK364; clear HB; have HO368 := n0_; have HO371 := n1_; have HO374 := n2_; have HO377 := n3_; have HO380 := n4_; have HO384 := n5_; have HO387 := n6_; have HO390 := n7_; have HO393 := n8_; have HO396 := n9_; have BK364 := n10_; have HB := n11_; have BK397 := n12_; have GW397 := n13_; have GE397 := n14_; have NB364_397 := n15_; have NB397_364 := n16_; clear n0_ n1_ n2_ n3_ n4_ n5_ n6_ n7_ n8_ n9_ n10_ n11_ n12_ n13_ n14_ n15_ n16_; clear hb hbox hg; obtain ⟨Ao81, co81, eo81⟩ := Kd.R_slice HO384.out; subst eo81; have hnb82 := NB397_364.out; have hnc82 := NB364_397.out; obtain ⟨hcz83_0, hcz83_1, hcz83_2, hcz83_3, hcz83_4, hfz83_0, hfz83_1, hfz83_2, hfz83_3, hfz83_4⟩ := zc5 BK397; obtain ⟨Ao84, co84, eo84⟩ := Kd.R_slice HO387.out; subst eo84; obtain ⟨Ao85, co85, eo85⟩ := Kd.S_slice HO390.out; subst eo85; obtain ⟨Ao86, co86, eo86⟩ := Kd.R_slice HO393.out; subst eo86; obtain ⟨Ao87, co87, eo87⟩ := Kd.R_slice HO396.out; subst eo87) | ((with_reducible refine gate_callee (f := 34) rfl ?_); refine zF 18 Try.func34 #[.agg #[.slice Ao81 t382.length co81, .slice Ao84 t385.length co84, .slice Ao85 t388.length co85, .slice Ao86 t391.length co86, .slice Ao87 t394.length co87]] rfl zL ?_; (with_reducible refine (impl_NestOk.calls k _ _ t382 _ _ t385 _ _ t388 _ _ t391 _ _ t394 t398 _ ?side1 ?side2 ?side3 ?side4 ?side5 ?side6 ?side7 ?side8 ?side9 ?side10 A10.out).mono ?_); (case side1 => refine (Kd.R_reads' (e := 3) (base := w.heap.size) (ok := fun k_ => ((((some k_ ≠ (.slice Ao84 t385.length co84 : Value).ownBlock ∧ some k_ ≠ (.slice Ao87 t394.length co87 : Value).ownBlock) ∧ some k_ ≠ (.slice Ao72 t366.length co72 : Value).ownBlock) ∧ some k_ ≠ (.slice Ao73 t369.length co73 : Value).ownBlock) ∧ some k_ ≠ (.slice Ao76 t378.length co76 : Value).ownBlock)) (n := t382.length) (c := co81) ?_).2.2; exact (by (with_reducible repeat (first | apply Kd.R_alloc | apply Kd.R_drewN | apply Kd.R_drew)); exact (Kd.R_mono (Kd.R_far (p := ⟨gb397, 4, none⟩) (Kd.R_far (p := ⟨gb397, 3, none⟩) (Kd.R_far (p := ⟨gb397, 2, none⟩) (Kd.R_far (p := ⟨gb397, 1, none⟩) (Kd.R_far (p := ⟨gb397, 0, none⟩) (Kd.R_types HO384.out BK397.out (by decide)) (fun _ hk => hk.2) (.slice Ao81 t382.length co81)) (fun _ hk => hk.2) (.slice Ao84 t385.length co84)) (fun _ hk => hk.2) (.slice Ao85 t388.length co85)) (fun _ hk => hk.2) (.slice Ao86 t391.length co86)) (fun _ hk => hk.2) (.slice Ao87 t394.length co87)) (fun _ h_ => h_.1)))); (case side2 => exact (Kd.R_reads' HO384.out).2.1); (case side3 => refine (Kd.R_reads' (e := 3) (base := w.heap.size) (ok := fun k_ => ((((some k_ ≠ (.slice Ao81 t382.length co81 : Value).ownBlock ∧ some k_ ≠ (.slice Ao87 t394.length co87 : Value).ownBlock) ∧ some k_ ≠ (.slice Ao72 t366.length co72 : Value).ownBlock) ∧ some k_ ≠ (.slice Ao73 t369.length co73 : Value).ownBlock) ∧ some k_ ≠ (.slice Ao76 t378.length co76 : Value).ownBlock)) (n := t385.length) (c := co84) ?_).2.2; exact (by (with_reducible repeat (first | apply Kd.R_alloc | apply Kd.R_drewN | apply Kd.R_drew)); exact (Kd.R_mono (Kd.R_far (p := ⟨gb397, 4, none⟩) (Kd.R_far (p := ⟨gb397, 3, none⟩) (Kd.R_far (p := ⟨gb397, 2, none⟩) (Kd.R_far (p := ⟨gb397, 1, none⟩) (Kd.R_far (p := ⟨gb397, 0, none⟩) (Kd.R_types HO387.out BK397.out (by decide)) (fun _ hk => hk.2) (.slice Ao81 t382.length co81)) (fun _ hk => hk.2) (.slice Ao84 t385.length co84)) (fun _ hk => hk.2) (.slice Ao85 t388.length co85)) (fun _ hk => hk.2) (.slice Ao86 t391.length co86)) (fun _ hk => hk.2) (.slice Ao87 t394.length co87)) (fun _ h_ => h_.1)))); (case side4 => exact (Kd.R_reads' HO387.out).2.1); (case side5 => refine (Kd.S_reads' (e := 125) (base := w.heap.size) (ok := fun k_ => (((((some k_ ≠ (.slice Ao81 t382.length co81 : Value).ownBlock ∧ (some k_ ≠ (.slice Ao84 t385.length co84 : Value).ownBlock ∧ some k_ ≠ (.slice Ao87 t394.length co87 : Value).ownBlock)) ∧ some k_ ≠ (.slice Ao72 t366.length co72 : Value).ownBlock) ∧ some k_ ≠ (.slice Ao73 t369.length co73 : Value).ownBlock) ∧ some k_ ≠ (.slice Ao74 t372.length co74 : Value).ownBlock) ∧ some k_ ≠ (.slice Ao76 t378.length co76 : Value).ownBlock)) (n := t388.length) (c := co85) ?_).2.2; exact (by (with_reducible repeat (first | apply Kd.S_alloc | apply Kd.S_drewN | apply Kd.S_drew)); exact (Kd.S_mono (Kd.S_far (p := ⟨gb397, 4, none⟩) (Kd.S_far (p := ⟨gb397, 3, none⟩) (Kd.S_far (p := ⟨gb397, 2, none⟩) (Kd.S_far (p := ⟨gb397, 1, none⟩) (Kd.S_far (p := ⟨gb397, 0, none⟩) (Kd.S_types HO390.out BK397.out (by decide)) (fun _ hk => hk.2) (.slice Ao81 t382.length co81)) (fun _ hk => hk.2) (.slice Ao84 t385.length co84)) (fun _ hk => hk.2) (.slice Ao85 t388.length co85)) (fun _ hk => hk.2) (.slice Ao86 t391.length co86)) (fun _ hk => hk.2) (.slice Ao87 t394.length co87)) (fun _ h_ => h_.1)))); (case side6 => exact (Kd.S_reads' HO390.out).2.1); (case side7 => refine (Kd.R_reads' (e := 132) (base := w.heap.size) (ok := fun k_ => (((((some k_ ≠ (.slice Ao81 t382.length co81 : Value).ownBlock ∧ (some k_ ≠ (.slice Ao84 t385.length co84 : Value).ownBlock ∧ some k_ ≠ (.slice Ao87 t394.length co87 : Value).ownBlock)) ∧ some k_ ≠ (.slice Ao72 t366.length co72 : Value).ownBlock) ∧ some k_ ≠ (.slice Ao73 t369.length co73 : Value).ownBlock) ∧ some k_ ≠ (.slice Ao75 t375.length co75 : Value).ownBlock) ∧ some k_ ≠ (.slice Ao76 t378.length co76 : Value).ownBlock)) (n := t391.length) (c := co86) ?_).2.2; exact (by (with_reducible repeat (first | apply Kd.R_alloc | apply Kd.R_drewN | apply Kd.R_drew)); exact (Kd.R_mono (Kd.R_far (p := ⟨gb397, 4, none⟩) (Kd.R_far (p := ⟨gb397, 3, none⟩) (Kd.R_far (p := ⟨gb397, 2, none⟩) (Kd.R_far (p := ⟨gb397, 1, none⟩) (Kd.R_far (p := ⟨gb397, 0, none⟩) (Kd.R_types HO393.out BK397.out (by decide)) (fun _ hk => hk.2) (.slice Ao81 t382.length co81)) (fun _ hk => hk.2) (.slice Ao84 t385.length co84)) (fun _ hk => hk.2) (.slice Ao85 t388.length co85)) (fun _ hk => hk.2) (.slice Ao86 t391.length co86)) (fun _ hk => hk.2) (.slice Ao87 t394.length co87)) (fun _ h_ => h_.1)))); (case side8 => exact (Kd.R_reads' HO393.out).2.1); (case side9 => refine (Kd.R_reads' (e := 3) (base := w.heap.size) (ok := fun k_ => ((((some k_ ≠ (.slice Ao81 t382.length co81 : Value).ownBlock ∧ some k_ ≠ (.slice Ao84 t385.length co84 : Value).ownBlock) ∧ some k_ ≠ (.slice Ao72 t366.length co72 : Value).ownBlock) ∧ some k_ ≠ (.slice Ao73 t369.length co73 : Value).ownBlock) ∧ some k_ ≠ (.slice Ao76 t378.length co76 : Value).ownBlock)) (n := t394.length) (c := co87) ?_).2.2; exact (by (with_reducible repeat (first | apply Kd.R_alloc | apply Kd.R_drewN | apply Kd.R_drew)); exact (Kd.R_mono (Kd.R_far (p := ⟨gb397, 4, none⟩) (Kd.R_far (p := ⟨gb397, 3, none⟩) (Kd.R_far (p := ⟨gb397, 2, none⟩) (Kd.R_far (p := ⟨gb397, 1, none⟩) (Kd.R_far (p := ⟨gb397, 0, none⟩) (Kd.R_types HO396.out BK397.out (by decide)) (fun _ hk => hk.2) (.slice Ao81 t382.length co81)) (fun _ hk => hk.2) (.slice Ao84 t385.length co84)) (fun _ hk => hk.2) (.slice Ao85 t388.length co85)) (fun _ hk => hk.2) (.slice Ao86 t391.length co86)) (fun _ hk => hk.2) (.slice Ao87 t394.length co87)) (fun _ h_ => h_.1)))); (case side10 => exact (Kd.R_reads' HO396.out).2.1); rintro e w88 ⟨rfl, hb⟩; refine ⟨_, rfl, ?_⟩; have n0_ := zK (Kd.R_below (by (with_reducible repeat (first | apply Kd.R_alloc | apply Kd.R_drewN | apply Kd.R_drew)); exact (Kd.R_mono (Kd.R_far (p := ⟨gb397, 4, none⟩) (Kd.R_far (p := ⟨gb397, 3, none⟩) (Kd.R_far (p := ⟨gb397, 2, none⟩) (Kd.R_far (p := ⟨gb397, 1, none⟩) (Kd.R_far (p := ⟨gb397, 0, none⟩) (Kd.R_types HO368.out BK397.out (by decide)) (fun _ hk => hk.2) (.slice Ao81 t382.length co81)) (fun _ hk => hk.2) (.slice Ao84 t385.length co84)) (fun _ hk => hk.2) (.slice Ao85 t388.length co85)) (fun _ hk => hk.2) (.slice Ao86 t391.length co86)) (fun _ hk => hk.2) (.slice Ao87 t394.length co87)) (fun _ h_ => h_.1))) hb); have n1_ := zK (Kd.R_below (by (with_reducible repeat (first | apply Kd.R_alloc | apply Kd.R_drewN | apply Kd.R_drew)); exact (Kd.R_mono (Kd.R_far (p := ⟨gb397, 4, none⟩) (Kd.R_far (p := ⟨gb397, 3, none⟩) (Kd.R_far (p := ⟨gb397, 2, none⟩) (Kd.R_far (p := ⟨gb397, 1, none⟩) (Kd.R_far (p := ⟨gb397, 0, none⟩) (Kd.R_types HO371.out BK397.out (by decide)) (fun _ hk => hk.2) (.slice Ao81 t382.length co81)) (fun _ hk => hk.2) (.slice Ao84 t385.length co84)) (fun _ hk => hk.2) (.slice Ao85 t388.length co85)) (fun _ hk => hk.2) (.slice Ao86 t391.length co86)) (fun _ hk => hk.2) (.slice Ao87 t394.length co87)) (fun _ h_ => h_.1))) hb); have n2_ := zK (Kd.S_below (by (with_reducible repeat (first | apply Kd.S_alloc | apply Kd.S_drewN | apply Kd.S_drew)); exact (Kd.S_mono (Kd.S_far (p := ⟨gb397, 4, none⟩) (Kd.S_far (p := ⟨gb397, 3, none⟩) (Kd.S_far (p := ⟨gb397, 2, none⟩) (Kd.S_far (p := ⟨gb397, 1, none⟩) (Kd.S_far (p := ⟨gb397, 0, none⟩) (Kd.S_types HO374.out BK397.out (by decide)) (fun _ hk => hk.2) (.slice Ao81 t382.length co81)) (fun _ hk => hk.2) (.slice Ao84 t385.length co84)) (fun _ hk => hk.2) (.slice Ao85 t388.length co85)) (fun _ hk => hk.2) (.slice Ao86 t391.length co86)) (fun _ hk => hk.2) (.slice Ao87 t394.length co87)) (fun _ h_ => h_.1))) hb); have n3_ := zK (Kd.R_below (by (with_reducible repeat (first | apply Kd.R_alloc | apply Kd.R_drewN | apply Kd.R_drew)); exact (Kd.R_mono (Kd.R_far (p := ⟨gb397, 4, none⟩) (Kd.R_far (p := ⟨gb397, 3, none⟩) (Kd.R_far (p := ⟨gb397, 2, none⟩) (Kd.R_far (p := ⟨gb397, 1, none⟩) (Kd.R_far (p := ⟨gb397, 0, none⟩) (Kd.R_types HO377.out BK397.out (by decide)) (fun _ hk => hk.2) (.slice Ao81 t382.length co81)) (fun _ hk => hk.2) (.slice Ao84 t385.length co84)) (fun _ hk => hk.2) (.slice Ao85 t388.length co85)) (fun _ hk => hk.2) (.slice Ao86 t391.length co86)) (fun _ hk => hk.2) (.slice Ao87 t394.length co87)) (fun _ h_ => h_.1))) hb); have n4_ := zK (Kd.R_below (by (with_reducible repeat (first | apply Kd.R_alloc | apply Kd.R_drewN | apply Kd.R_drew)); exact (Kd.R_mono (Kd.R_far (p := ⟨gb397, 4, none⟩) (Kd.R_far (p := ⟨gb397, 3, none⟩) (Kd.R_far (p := ⟨gb397, 2, none⟩) (Kd.R_far (p := ⟨gb397, 1, none⟩) (Kd.R_far (p := ⟨gb397, 0, none⟩) (Kd.R_types HO380.out BK397.out (by decide)) (fun _ hk => hk.2) (.slice Ao81 t382.length co81)) (fun _ hk => hk.2) (.slice Ao84 t385.length co84)) (fun _ hk => hk.2) (.slice Ao85 t388.length co85)) (fun _ hk => hk.2) (.slice Ao86 t391.length co86)) (fun _ hk => hk.2) (.slice Ao87 t394.length co87)) (fun _ h_ => h_.1))) hb); have n5_ := zK (Kd.R_below (by (with_reducible repeat (first | apply Kd.R_alloc | apply Kd.R_drewN | apply Kd.R_drew)); exact (Kd.R_mono (Kd.R_far (p := ⟨gb397, 4, none⟩) (Kd.R_far (p := ⟨gb397, 3, none⟩) (Kd.R_far (p := ⟨gb397, 2, none⟩) (Kd.R_far (p := ⟨gb397, 1, none⟩) (Kd.R_far (p := ⟨gb397, 0, none⟩) (Kd.R_types HO384.out BK397.out (by decide)) (fun _ hk => hk.2) (.slice Ao81 t382.length co81)) (fun _ hk => hk.2) (.slice Ao84 t385.length co84)) (fun _ hk => hk.2) (.slice Ao85 t388.length co85)) (fun _ hk => hk.2) (.slice Ao86 t391.length co86)) (fun _ hk => hk.2) (.slice Ao87 t394.length co87)) (fun _ h_ => h_.1))) hb); have n6_ := zK (Kd.R_below (by (with_reducible repeat (first | apply Kd.R_alloc | apply Kd.R_drewN | apply Kd.R_drew)); exact (Kd.R_mono (Kd.R_far (p := ⟨gb397, 4, none⟩) (Kd.R_far (p := ⟨gb397, 3, none⟩) (Kd.R_far (p := ⟨gb397, 2, none⟩) (Kd.R_far (p := ⟨gb397, 1, none⟩) (Kd.R_far (p := ⟨gb397, 0, none⟩) (Kd.R_types HO387.out BK397.out (by decide)) (fun _ hk => hk.2) (.slice Ao81 t382.length co81)) (fun _ hk => hk.2) (.slice Ao84 t385.length co84)) (fun _ hk => hk.2) (.slice Ao85 t388.length co85)) (fun _ hk => hk.2) (.slice Ao86 t391.length co86)) (fun _ hk => hk.2) (.slice Ao87 t394.length co87)) (fun _ h_ => h_.1))) hb); have n7_ := zK (Kd.S_below (by (with_reducible repeat (first | apply Kd.S_alloc | apply Kd.S_drewN | apply Kd.S_drew)); exact (Kd.S_mono (Kd.S_far (p := ⟨gb397, 4, none⟩) (Kd.S_far (p := ⟨gb397, 3, none⟩) (Kd.S_far (p := ⟨gb397, 2, none⟩) (Kd.S_far (p := ⟨gb397, 1, none⟩) (Kd.S_far (p := ⟨gb397, 0, none⟩) (Kd.S_types HO390.out BK397.out (by decide)) (fun _ hk => hk.2) (.slice Ao81 t382.length co81)) (fun _ hk => hk.2) (.slice Ao84 t385.length co84)) (fun _ hk => hk.2) (.slice Ao85 t388.length co85)) (fun _ hk => hk.2) (.slice Ao86 t391.length co86)) (fun _ hk => hk.2) (.slice Ao87 t394.length co87)) (fun _ h_ => h_.1))) hb); have n8_ := zK (Kd.R_below (by (with_reducible repeat (first | apply Kd.R_alloc | apply Kd.R_drewN | apply Kd.R_drew)); exact (Kd.R_mono (Kd.R_far (p := ⟨gb397, 4, none⟩) (Kd.R_far (p := ⟨gb397, 3, none⟩) (Kd.R_far (p := ⟨gb397, 2, none⟩) (Kd.R_far (p := ⟨gb397, 1, none⟩) (Kd.R_far (p := ⟨gb397, 0, none⟩) (Kd.R_types HO393.out BK397.out (by decide)) (fun _ hk => hk.2) (.slice Ao81 t382.length co81)) (fun _ hk => hk.2) (.slice Ao84 t385.length co84)) (fun _ hk => hk.2) (.slice Ao85 t388.length co85)) (fun _ hk => hk.2) (.slice Ao86 t391.length co86)) (fun _ hk => hk.2) (.slice Ao87 t394.length co87)) (fun _ h_ => h_.1))) hb); have n9_ := zK (Kd.R_below (by (with_reducible repeat (first | apply Kd.R_alloc | apply Kd.R_drewN | apply Kd.R_drew)); exact (Kd.R_mono (Kd.R_far (p := ⟨gb397, 4, none⟩) (Kd.R_far (p := ⟨gb397, 3, none⟩) (Kd.R_far (p := ⟨gb397, 2, none⟩) (Kd.R_far (p := ⟨gb397, 1, none⟩) (Kd.R_far (p := ⟨gb397, 0, none⟩) (Kd.R_types HO396.out BK397.out (by decide)) (fun _ hk => hk.2) (.slice Ao81 t382.length co81)) (fun _ hk => hk.2) (.slice Ao84 t385.length co84)) (fun _ hk => hk.2) (.slice Ao85 t388.length co85)) (fun _ hk => hk.2) (.slice Ao86 t391.length co86)) (fun _ hk => hk.2) (.slice Ao87 t394.length co87)) (fun _ h_ => h_.1))) hb); have n10_ := zK (zg (g := gb364) (o := .cells #[.slice A0_0 l0_0.length c0_0, .slice A0_1 l0_1.length c0_1, .slice A0_2 l0_2.length c0_2, .slice A0_3 l0_3.length c0_3, .slice A0_4 l0_4.length c0_4] 64 (0, 0)) (by (with_reducible repeat (first | refine zn ?_ _ | refine zd ?_ | refine za ?_ _)); refine blk_far ?_ NB364_397.out _; (with_reducible repeat (first | refine zn ?_ _ | refine zd ?_ | refine za ?_ _)); refine blk_far ?_ NB364_397.out _; (with_reducible repeat (first | refine zn ?_ _ | refine zd ?_ | refine za ?_ _)); refine blk_far ?_ NB364_397.out _; (with_reducible repeat (first | refine zn ?_ _ | refine zd ?_ | refine za ?_ _)); refine blk_far ?_ NB364_397.out _; (with_reducible repeat (first | refine zn ?_ _ | refine zd ?_ | refine za ?_ _)); refine blk_far ?_ NB364_397.out _; (with_reducible repeat (first | refine zn ?_ _ | refine zd ?_ | refine za ?_ _)); exact BK364.out) hb); have n11_ := zK (zg (g := gb397) (o := .cells #[.slice Ao81 t382.length co81, .slice Ao84 t385.length co84, .slice Ao85 t388.length co85, .slice Ao86 t391.length co86, .slice Ao87 t394.length co87] 70 (0, 0)) (by (with_reducible repeat (first | refine zn ?_ _ | refine zd ?_ | refine za ?_ _)); refine blk_put (cs := #[.slice Ao81 t382.length co81, .slice Ao84 t385.length co84, .slice Ao85 t388.length co85, .slice Ao86 t391.length co86, .slice none 0 0]) ?_ 4 _ rfl; (with_reducible repeat (first | refine zn ?_ _ | refine zd ?_ | refine za ?_ _)); refine blk_put (cs := #[.slice Ao81 t382.length co81, .slice Ao84 t385.length co84, .slice Ao85 t388.length co85, .slice none 0 0, .slice none 0 0]) ?_ 3 _ rfl; (with_reducible repeat (first | refine zn ?_ _ | refine zd ?_ | refine za ?_ _)); refine blk_put (cs := #[.slice Ao81 t382.length co81, .slice Ao84 t385.length co84, .slice none 0 0, .slice none 0 0, .slice none 0 0]) ?_ 2 _ rfl; (with_reducible repeat (first | refine zn ?_ _ | refine zd ?_ | refine za ?_ _)); refine blk_put (cs := #[.slice Ao81 t382.length co81, .slice none 0 0, .slice none 0 0, .slice none 0 0, .slice none 0 0]) ?_ 1 _ rfl; (with_reducible repeat (first | refine zn ?_ _ | refine zd ?_ | refine za ?_ _)); refine blk_put (cs := #[.slice none 0 0, .slice none 0 0, .slice none 0 0, .slice none 0 0, .slice none 0 0]) ?_ 0 _ rfl; (with_reducible repeat (first | refine zn ?_ _ | refine zd ?_ | refine za ?_ _)); exact BK397.out) hb); have n12_ := zK (zp zB hb); clear HO368; clear HO371; clear HO374; clear HO377; clear HO380; clear HO384; clear HO387; clear HO390; clear HO393; clear HO396; clear BK364; clear BK397; clear HB; have HO368 := n0_; have HO371 := n1_; have HO374 := n2_; have HO377 := n3_; have HO380 := n4_; have HO384 := n5_; have HO387 := n6_; have HO390 := n7_; have HO393 := n8_; have HO396 := n9_; have BK364 := n10_; have BK397 := n11_; have HB := n12_; clear n0_ n1_ n2_ n3_ n4_ n5_ n6_ n7_ n8_ n9_ n10_ n11_ n12_; (try clear hb); (try clear hb2); (try clear hk); (try clear hi)))
  have n0_ := zK (Kd.R_drew HO368.out)
  have n1_ := zK (Kd.R_drew HO371.out)
  have n2_ := zK (Kd.S_drew HO374.out)
  have n3_ := zK (Kd.R_drew HO377.out)
  have n4_ := zK (Kd.R_drew HO380.out)
  have n5_ := zK (Kd.R_drew HO384.out)
  have n6_ := zK (Kd.R_drew HO387.out)
  have n7_ := zK (Kd.S_drew HO390.out)
  have n8_ := zK (Kd.R_drew HO393.out)
  have n9_ := zK (Kd.R_drew HO396.out)
  have n10_ := zK (zd BK364.out)
  have n11_ := zK (zd BK397.out)
  have n12_ := zK (ze HB.out)
  clear HO368
  clear HO371
  clear HO374
  clear HO377
  clear HO380
  clear HO384
  clear HO387
  clear HO390
  clear HO393
  clear HO396
  clear BK364
  clear BK397
  clear HB
  have HO368 := n0_
  have HO371 := n1_
  have HO374 := n2_
  have HO377 := n3_
  have HO380 := n4_
  have HO384 := n5_
  have HO387 := n6_
  have HO390 := n7_
  have HO393 := n8_
  have HO396 := n9_
  have BK364 := n10_
  have BK397 := n11_
  have HB := n12_
  clear n0_ n1_ n2_ n3_ n4_ n5_ n6_ n7_ n8_ n9_ n10_ n11_ n12_
  refine start_ (n := 5) (S := fun w' => w'.cell? ⟨gb397, 0, none⟩ = some (.slice Ao81 t382.length co81) ∧ w'.cell? ⟨gb397, 1, none⟩ = some (.slice Ao84 t385.length co84) ∧ w'.cell? ⟨gb397, 2, none⟩ = some (.slice Ao85 t388.length co85) ∧ w'.cell? ⟨gb397, 3, none⟩ = some (.slice Ao86 t391.length co86) ∧ w'.cell? ⟨gb397, 4, none⟩ = some (.slice Ao87 t394.length co87) ∧ w'.cell? ⟨gb364, 0, none⟩ = some (.slice A0_0 l0_0.length c0_0) ∧ w'.cell? ⟨gb364, 1, none⟩ = some (.slice A0_1 l0_1.length c0_1) ∧ w'.cell? ⟨gb364, 2, none⟩ = some (.slice A0_2 l0_2.length c0_2) ∧ w'.cell? ⟨gb364, 3, none⟩ = some (.slice A0_3 l0_3.length c0_3) ∧ w'.cell? ⟨gb364, 4, none⟩ = some (.slice A0_4 l0_4.length c0_4)) (ds := []) (bl 5 0) (by kernel_rfl) rfl (by kernel_rfl) ⟨zy BK397 0, zy BK397 1, zy BK397 2, zy BK397 3, zy BK397 4, zy BK364 0, zy BK364 1, zy BK364 2, zy BK364 3, zy BK364 4⟩ (fun hHeld => ?_)
  generalize w88.drew = w89 at HO368 HO371 HO374 HO377 HO380 HO384 HO387 HO390 HO393 HO396 BK364 BK397 HB hHeld ⊢
  refine take_ (i := 0) (N := some 22) (v := ?_) (a' := ?_) (bl 5 1) rfl rfl (by kernel_rfl) (fun _ _ _ h => h) (Or.inl ⟨by rfl, ?_⟩) hHeld ?_ ?_
  rotate_left
  · rintro w' ⟨s0, s1, s2, s3, s4, s5, s6, s7, s8, s9⟩
    go_simp
    with_reducible rfl
  rotate_left
  · simp only [Act.put, zq1, zq2, zq3, i64_w, i32_w]
    rfl
  refine take_ (i := 1) (N := some 23) (v := ?_) (a' := ?_) (bl 5 3) rfl rfl (by kernel_rfl) (fun _ _ _ h => h) (Or.inl ⟨by rfl, ?_⟩) hHeld ?_ ?_
  rotate_left
  · rintro w' ⟨s0, s1, s2, s3, s4, s5, s6, s7, s8, s9⟩
    go_simp
    with_reducible rfl
  rotate_left
  · simp only [Act.put, zq1, zq2, zq3, i64_w, i32_w]
    rfl
  refine one_ (i := 2) (N := some 24) (bl 5 7) rfl rfl (by kernel_rfl) (by decide) (fun K hK => ?_)
  refine goes_ Try.func33 (by kernel_rfl) rfl #[.agg #[.slice A0_0 l0_0.length c0_0, .slice A0_1 l0_1.length c0_1, .slice A0_2 l0_2.length c0_2, .slice A0_3 l0_3.length c0_3, .slice A0_4 l0_4.length c0_4]] (by rfl) rfl rfl zL ?_
  with_reducible refine (laws_toNest.calls k _ _ l0_0 _ _ l0_1 _ _ l0_2 _ _ l0_3 _ _ l0_4 t399 t402 t405 t408 t411 _ ?side1 ?side2 ?side3 ?side4 ?side5 ?side6 ?side7 ?side8 ?side9 ?side10 A34.out).mono ?_
  (case side1 => exact zC (Kd.C_below HR0_0.out HB.out))
  (case side2 => exact HC0_0.out)
  (case side3 => exact zC (Kd.C_below HR0_1.out HB.out))
  (case side4 => exact HC0_1.out)
  (case side5 => exact zC (Kd.C_below HR0_2.out HB.out))
  (case side6 => exact HC0_2.out)
  (case side7 => exact zC (Kd.C_below HR0_3.out HB.out))
  (case side8 => exact HC0_3.out)
  (case side9 => exact zC (Kd.C_below HR0_4.out HB.out))
  (case side10 => exact HC0_4.out)
  rintro e w90 ⟨v400, v403, v406, v409, v412, rfl, ho0, ho1, ho2, ho3, ho4, hb⟩
  refine ⟨_, rfl, ?_⟩
  have n0_ := zK (Kd.R_mono (Kd.R_told (Kd.R_told (Kd.R_told (Kd.R_old (zkR HO368) hb) (Kd.R_base ho0)) (Kd.R_base ho1)) (Kd.R_base ho4)) (fun _ h_ => h_.1))
  have n1_ := zK (Kd.R_mono (Kd.R_told (Kd.R_told (Kd.R_told (Kd.R_old (zkR HO371) hb) (Kd.R_base ho0)) (Kd.R_base ho1)) (Kd.R_base ho4)) (fun _ h_ => h_.1))
  have n2_ := zK (Kd.S_mono (Kd.S_told (Kd.S_told (Kd.S_told (Kd.S_told (Kd.S_old (zkS HO374) hb) (Kd.R_base ho0)) (Kd.R_base ho1)) (Kd.S_base ho2)) (Kd.R_base ho4)) (fun _ h_ => h_.1))
  have n3_ := zK (Kd.R_mono (Kd.R_told (Kd.R_told (Kd.R_told (Kd.R_told (Kd.R_old (zkR HO377) hb) (Kd.R_base ho0)) (Kd.R_base ho1)) (Kd.R_base ho3)) (Kd.R_base ho4)) (fun _ h_ => h_.1))
  have n4_ := zK (Kd.R_mono (Kd.R_told (Kd.R_told (Kd.R_told (Kd.R_old (zkR HO380) hb) (Kd.R_base ho0)) (Kd.R_base ho1)) (Kd.R_base ho4)) (fun _ h_ => h_.1))
  have n5_ := zK (Kd.R_mono (Kd.R_told (Kd.R_told (Kd.R_told (Kd.R_old (zkR HO384) hb) (Kd.R_base ho0)) (Kd.R_base ho1)) (Kd.R_base ho4)) (fun _ h_ => h_.1))
  have n6_ := zK (Kd.R_mono (Kd.R_told (Kd.R_told (Kd.R_told (Kd.R_old (zkR HO387) hb) (Kd.R_base ho0)) (Kd.R_base ho1)) (Kd.R_base ho4)) (fun _ h_ => h_.1))
  have n7_ := zK (Kd.S_mono (Kd.S_told (Kd.S_told (Kd.S_told (Kd.S_told (Kd.S_old (zkS HO390) hb) (Kd.R_base ho0)) (Kd.R_base ho1)) (Kd.S_base ho2)) (Kd.R_base ho4)) (fun _ h_ => h_.1))
  have n8_ := zK (Kd.R_mono (Kd.R_told (Kd.R_told (Kd.R_told (Kd.R_told (Kd.R_old (zkR HO393) hb) (Kd.R_base ho0)) (Kd.R_base ho1)) (Kd.R_base ho3)) (Kd.R_base ho4)) (fun _ h_ => h_.1))
  have n9_ := zK (Kd.R_mono (Kd.R_told (Kd.R_told (Kd.R_told (Kd.R_old (zkR HO396) hb) (Kd.R_base ho0)) (Kd.R_base ho1)) (Kd.R_base ho4)) (fun _ h_ => h_.1))
  have n10_ := zK (Kd.R_lower (Kd.R_new' (Kd.R_new' (Kd.R_new' (Kd.R_new' (Kd.R_new' (Kd.R_new' ho0 (Kd.R_lt (zkR HO368))) (Kd.R_lt (zkR HO371))) (Kd.R_lt (zkR HO380))) (Kd.R_lt (zkR HO384))) (Kd.R_lt (zkR HO387))) (Kd.R_lt (zkR HO396))) (zz zB))
  have n11_ := zK (Kd.R_lower (Kd.R_new' (Kd.R_new' (Kd.R_new' (Kd.R_new' (Kd.R_new' (Kd.R_new' ho1 (Kd.R_lt (zkR HO368))) (Kd.R_lt (zkR HO371))) (Kd.R_lt (zkR HO380))) (Kd.R_lt (zkR HO384))) (Kd.R_lt (zkR HO387))) (Kd.R_lt (zkR HO396))) (zz zB))
  have n12_ := zK (Kd.S_lower (Kd.S_new' (Kd.S_new' (Kd.S_new' (Kd.S_new' (Kd.S_new' (Kd.S_new' (Kd.S_new' (Kd.S_new' ho2 (Kd.R_lt (zkR HO368))) (Kd.R_lt (zkR HO371))) (Kd.S_lt (zkS HO374))) (Kd.R_lt (zkR HO380))) (Kd.R_lt (zkR HO384))) (Kd.R_lt (zkR HO387))) (Kd.S_lt (zkS HO390))) (Kd.R_lt (zkR HO396))) (zz zB))
  have n13_ := zK (Kd.R_lower (Kd.R_new' (Kd.R_new' (Kd.R_new' (Kd.R_new' (Kd.R_new' (Kd.R_new' (Kd.R_new' (Kd.R_new' ho3 (Kd.R_lt (zkR HO368))) (Kd.R_lt (zkR HO371))) (Kd.R_lt (zkR HO377))) (Kd.R_lt (zkR HO380))) (Kd.R_lt (zkR HO384))) (Kd.R_lt (zkR HO387))) (Kd.R_lt (zkR HO393))) (Kd.R_lt (zkR HO396))) (zz zB))
  have n14_ := zK (Kd.R_lower (Kd.R_new' (Kd.R_new' (Kd.R_new' (Kd.R_new' (Kd.R_new' (Kd.R_new' ho4 (Kd.R_lt (zkR HO368))) (Kd.R_lt (zkR HO371))) (Kd.R_lt (zkR HO380))) (Kd.R_lt (zkR HO384))) (Kd.R_lt (zkR HO387))) (Kd.R_lt (zkR HO396))) (zz zB))
  have n15_ := zK (zg (zM BK364) hb)
  have n16_ := zK (zg (zM BK397) hb)
  have n17_ := zK (zp zB hb)
  clear HO368
  clear HO371
  clear HO374
  clear HO377
  clear HO380
  clear HO384
  clear HO387
  clear HO390
  clear HO393
  clear HO396
  clear BK364
  clear BK397
  clear HB
  have HO368 := n0_
  have HO371 := n1_
  have HO374 := n2_
  have HO377 := n3_
  have HO380 := n4_
  have HO384 := n5_
  have HO387 := n6_
  have HO390 := n7_
  have HO393 := n8_
  have HO396 := n9_
  have HO401 := n10_
  have HO404 := n11_
  have HO407 := n12_
  have HO410 := n13_
  have HO413 := n14_
  have BK364 := n15_
  have BK397 := n16_
  have HB := n17_
  clear n0_ n1_ n2_ n3_ n4_ n5_ n6_ n7_ n8_ n9_ n10_ n11_ n12_ n13_ n14_ n15_ n16_ n17_
  (try clear hb)
  (try clear hb2)
  (try clear hk)
  (try clear hi)
  (try clear ho0)
  (try clear ho1)
  (try clear ho2)
  (try clear ho3)
  (try clear ho4)
  obtain ⟨Ao91, co91, eo91⟩ := Kd.R_slice HO401.out
  (first | subst eo91 | (injection eo91 with f1_ f2_ f3_; have f4_ := f1_.symm; have f5_ := f3_.symm; clear f1_ f2_ f3_; subst f4_; subst f5_))
  obtain ⟨Ao92, co92, eo92⟩ := Kd.R_slice HO404.out
  (first | subst eo92 | (injection eo92 with f1_ f2_ f3_; have f4_ := f1_.symm; have f5_ := f3_.symm; clear f1_ f2_ f3_; subst f4_; subst f5_))
  obtain ⟨Ao93, co93, eo93⟩ := Kd.S_slice HO407.out
  (first | subst eo93 | (injection eo93 with f1_ f2_ f3_; have f4_ := f1_.symm; have f5_ := f3_.symm; clear f1_ f2_ f3_; subst f4_; subst f5_))
  obtain ⟨Ao94, co94, eo94⟩ := Kd.R_slice HO410.out
  (first | subst eo94 | (injection eo94 with f1_ f2_ f3_; have f4_ := f1_.symm; have f5_ := f3_.symm; clear f1_ f2_ f3_; subst f4_; subst f5_))
  obtain ⟨Ao95, co95, eo95⟩ := Kd.R_slice HO413.out
  (first | subst eo95 | (injection eo95 with f1_ f2_ f3_; have f4_ := f1_.symm; have f5_ := f3_.symm; clear f1_ f2_ f3_; subst f4_; subst f5_))
  refine hK.out _ _ ⟨zy BK397 0, zy BK397 1, zy BK397 2, zy BK397 3, zy BK397 4, zy BK364 0, zy BK364 1, zy BK364 2, zy BK364 3, zy BK364 4⟩ (fun hHeld => ?_)
  clear hK K
  refine zU 24 ?_
  refine one_ (i := 3) (N := some 25) (bl 5 15) rfl rfl (by kernel_rfl) (by decide) (fun K hK => ?_)
  refine goes_ Try.func35 (by kernel_rfl) rfl #[.agg #[.slice Ao81 t382.length co81, .slice Ao84 t385.length co84, .slice Ao85 t388.length co85, .slice Ao86 t391.length co86, .slice Ao87 t394.length co87], .agg #[.slice Ao91 t399.length co91, .slice Ao92 t402.length co92, .slice Ao93 t405.length co93, .slice Ao94 t408.length co94, .slice Ao95 t411.length co95]] (by rfl) rfl rfl zL ?_
  with_reducible refine (laws_eqNest.calls k _ _ t382 _ _ t385 _ _ t388 _ _ t391 _ _ t394 _ _ t399 _ _ t402 _ _ t405 _ _ t408 _ _ t411 false _ ?side1 ?side2 ?side3 ?side4 ?side5 ?side6 ?side7 ?side8 ?side9 ?side10 ?side11 ?side12 ?side13 ?side14 ?side15 ?side16 ?side17 ?side18 ?side19 ?side20 A35.out).mono ?_
  (case side1 => exact zC (Kd.R_reads' HO384.out).2.2)
  (case side2 => exact (Kd.R_reads' HO384.out).2.1)
  (case side3 => exact zC (Kd.R_reads' HO387.out).2.2)
  (case side4 => exact (Kd.R_reads' HO387.out).2.1)
  (case side5 => exact zC (Kd.S_reads' HO390.out).2.2)
  (case side6 => exact (Kd.S_reads' HO390.out).2.1)
  (case side7 => exact zC (Kd.R_reads' HO393.out).2.2)
  (case side8 => exact (Kd.R_reads' HO393.out).2.1)
  (case side9 => exact zC (Kd.R_reads' HO396.out).2.2)
  (case side10 => exact (Kd.R_reads' HO396.out).2.1)
  (case side11 => exact zC (Kd.R_reads' HO401.out).2.2)
  (case side12 => exact (Kd.R_reads' HO401.out).2.1)
  (case side13 => exact zC (Kd.R_reads' HO404.out).2.2)
  (case side14 => exact (Kd.R_reads' HO404.out).2.1)
  (case side15 => exact zC (Kd.S_reads' HO407.out).2.2)
  (case side16 => exact (Kd.S_reads' HO407.out).2.1)
  (case side17 => exact zC (Kd.R_reads' HO410.out).2.2)
  (case side18 => exact (Kd.R_reads' HO410.out).2.1)
  (case side19 => exact zC (Kd.R_reads' HO413.out).2.2)
  (case side20 => exact (Kd.R_reads' HO413.out).2.1)
  rintro e w96 ⟨rfl, hb⟩
  refine ⟨_, rfl, ?_⟩
  have n0_ := zK (Kd.R_below (zkR HO368) hb)
  have n1_ := zK (Kd.R_below (zkR HO371) hb)
  have n2_ := zK (Kd.S_below (zkS HO374) hb)
  have n3_ := zK (Kd.R_below (zkR HO377) hb)
  have n4_ := zK (Kd.R_below (zkR HO380) hb)
  have n5_ := zK (Kd.R_below (zkR HO384) hb)
  have n6_ := zK (Kd.R_below (zkR HO387) hb)
  have n7_ := zK (Kd.S_below (zkS HO390) hb)
  have n8_ := zK (Kd.R_below (zkR HO393) hb)
  have n9_ := zK (Kd.R_below (zkR HO396) hb)
  have n10_ := zK (Kd.R_below (zkR HO401) hb)
  have n11_ := zK (Kd.R_below (zkR HO404) hb)
  have n12_ := zK (Kd.S_below (zkS HO407) hb)
  have n13_ := zK (Kd.R_below (zkR HO410) hb)
  have n14_ := zK (Kd.R_below (zkR HO413) hb)
  have n15_ := zK (zg (zM BK364) hb)
  have n16_ := zK (zg (zM BK397) hb)
  have n17_ := zK (zp zB hb)
  clear HO368
  clear HO371
  clear HO374
  clear HO377
  clear HO380
  clear HO384
  clear HO387
  clear HO390
  clear HO393
  clear HO396
  clear HO401
  clear HO404
  clear HO407
  clear HO410
  clear HO413
  clear BK364
  clear BK397
  clear HB
  have HO368 := n0_
  have HO371 := n1_
  have HO374 := n2_
  have HO377 := n3_
  have HO380 := n4_
  have HO384 := n5_
  have HO387 := n6_
  have HO390 := n7_
  have HO393 := n8_
  have HO396 := n9_
  have HO401 := n10_
  have HO404 := n11_
  have HO407 := n12_
  have HO410 := n13_
  have HO413 := n14_
  have BK364 := n15_
  have BK397 := n16_
  have HB := n17_
  clear n0_ n1_ n2_ n3_ n4_ n5_ n6_ n7_ n8_ n9_ n10_ n11_ n12_ n13_ n14_ n15_ n16_ n17_
  (try clear hb)
  (try clear hb2)
  (try clear hk)
  (try clear hi)
  refine hK.out _ _ ⟨zy BK397 0, zy BK397 1, zy BK397 2, zy BK397 3, zy BK397 4, zy BK364 0, zy BK364 1, zy BK364 2, zy BK364 3, zy BK364 4⟩ (fun hHeld => ?_)
  clear hK K
  refine zU 25 ?_
  refine pure_ (i := 4) (N := some 26) (v := ?_) (a' := ?_) (bl 5 31) rfl rfl (by kernel_rfl) (fun _ _ _ h => h) (Or.inl ⟨by rfl, ?_⟩) ?_ ?_
  rotate_left
  · intro w'
    go_simp
    with_reducible rfl
  rotate_left
  · simp only [Act.put, zq1, zq2, zq3, i64_w, i32_w]
    rfl
  refine done_ (by kernel_rfl) ?_
  try go_wp2
  go_ret
  exact ⟨zE, zB⟩

def WT166 (x : S166) : Prop := (Lit.int .i64 x.f0).wf = true ∧ (x.f1.length ≤ maxLen ∧ ∀ y0_ ∈ x.f1, (Lit.int .i64 y0_).wf = true)
def WT169 (x : S169) : Prop := (Lit.int .i64 x.f0).wf = true ∧ (Lit.int .i64 x.f1).wf = true ∧ (x.f2.length ≤ maxLen ∧ ∀ y0_ ∈ x.f2, (Lit.int .i64 y0_).wf = true)
def WT230 (x : S230) : Prop := (Lit.int .i64 x.f0).wf = true ∧ (Lit.int .i64 x.f1).wf = true ∧ (Lit.int .i64 x.f2).wf = true
def WT172 (x : S172) : Prop := (x.f0.length ≤ maxLen ∧ ∀ y0_ ∈ x.f0, (Lit.int .i64 y0_).wf = true) ∧ (x.f1.length ≤ maxLen ∧ ∀ y0_ ∈ x.f1, WT169 y0_) ∧ WT169 x.f2 ∧ True ∧ (x.f4.length ≤ maxLen ∧ ∀ y0_ ∈ x.f4, WT230 y0_)
def WT64 (x : S64) : Prop := (x.f0.length ≤ maxLen ∧ ∀ y0_ ∈ x.f0, (Lit.int .i64 y0_).wf = true) ∧ (x.f1.length ≤ maxLen ∧ ∀ y0_ ∈ x.f1, (Lit.int .i64 y0_).wf = true) ∧ (x.f2.length ≤ maxLen ∧ ∀ y0_ ∈ x.f2, WT166 y0_) ∧ (x.f3.length ≤ maxLen ∧ ∀ y0_ ∈ x.f3, WT172 y0_) ∧ (x.f4.length ≤ maxLen ∧ ∀ y0_ ∈ x.f4, (Lit.int .i64 y0_).wf = true)
/-- THE ONE PURE STATEMENT of laws_FnExactNestOk: yours. -/
def laws_FnExactNestOk.Pure : Prop := ∀ (x0 : S64), WT64 x0 → ∃ k, laws_FnExactNestOk.f k x0.f0 x0.f1 x0.f2 x0.f3 x0.f4 = some true
theorem laws_FnExactNestOk.walk (P : laws_FnExactNestOk.Pure) (x0 : S64) (cs0 : Array Value) (w : World) (h0 : k64.K w x0 cs0.toList) (w0 : WT64 x0) :
    Calls Try.prog 5 #[.agg cs0] w fun e w' => e = .returned (.bool true) ∧ Below w.heap.size w w' := by
  obtain ⟨k, h⟩ := P x0 w0
  obtain ⟨A0_0, c0_0, A0_1, c0_1, A0_2, c0_2, A0_3, c0_3, A0_4, c0_4, hcs0, l0_0, g0_0, l0_1, g0_1, l0_2, g0_2, l0_3, g0_3, l0_4, g0_4⟩ := k64_open h0
  obtain rfl : cs0 = #[.slice A0_0 (x0.f0).length c0_0, .slice A0_1 (x0.f1).length c0_1, .slice A0_2 (x0.f2).length c0_2, .slice A0_3 (x0.f3).length c0_3, .slice A0_4 (x0.f4).length c0_4] := by cases cs0; simp_all
  refine (laws_FnExactNestOk.calls k _ _ x0.f0 _ _ x0.f1 _ _ x0.f2 _ _ x0.f3 _ _ x0.f4 true w g0_0 l0_0 g0_1 l0_1 g0_2 l0_2 g0_3 l0_3 g0_4 l0_4 h).mono ?_
  rintro e w' ⟨rfl, hd⟩
  exact ⟨rfl, hd⟩

end Go.Proofs.Ytkfagiojcjnfkaa.PFnExactNestOk
