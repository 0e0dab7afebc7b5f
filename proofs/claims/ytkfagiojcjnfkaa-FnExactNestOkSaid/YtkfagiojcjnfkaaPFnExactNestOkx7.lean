-- Printed out of the translation by this session's own turned copy of a printer; Lean checks it.
import Derived.Test.YtkfagiojcjnfkaaPFnExactNestOkx0
namespace Go.Proofs.Ytkfagiojcjnfkaa.PFnExactNestOk
open Go.RowKit Go.Proofs.YtkfagiojcjnfkaaW.PrintWords Go.Proofs.YtkfagiojcjnfkaaW.PrintLast Go.Proofs.YtkfagiojcjnfkaaW.PrintMore
attribute [local go_sem] max2_int min2_int max_two min_two max_three min_three max_four min_four   -- for this text's walks alone
set_option linter.unusedVariables false
set_option linter.unusedSimpArgs false

/-! ### laws_toIntS: function 40 -/
def laws_toIntS.l0 : Nat → List Int → List Int → Int → Option (List Int)
  | 0, _, _, _ => none
  | k + 1, x0, x3, x4 => if x4 < (x0.length : Int) then (if 0 ≤ x4 then (if x4 < (x3.length : Int) then (laws_toIntS.l0 k x0 (x3.set (x4 : Int).toNat (rd x0 x4)) (wrap64 (x4 + 1))) else (none)) else (none)) else (some x3)
def laws_toIntS.f (k : Nat) (l0 : List Int) : Option (List Int) := if 0 ≤ (l0.length : Int) then (if ((l0.length : Int) : Int).toNat ≤ 35184372088832 then (laws_toIntS.l0 k l0 (List.replicate ((l0.length : Int) : Int).toNat 0) 0) else (none)) else (none)
theorem laws_toIntS.mono_l : ∀ k, (∀ y0 y1 y2, LeO (laws_toIntS.l0 k y0 y1 y2) (laws_toIntS.l0 (k + 1) y0 y1 y2))
  | 0 => fun _ _ _ r h => by simp [laws_toIntS.l0] at h
  | k + 1 => by
    have ih0 := laws_toIntS.mono_l k
    · intro y0 y1 y2
      unfold laws_toIntS.l0
      repeat' first
      | (with_reducible exact ih0 _ _ _)
      | (with_reducible exact LeO.refl _)
      | (with_reducible exact LeO.none _)
      | (with_reducible refine LeO.ite ?_ ?_)
      | (with_reducible refine LeO.bind ?_ (fun _ => ?_))
      | exact ih0 _ _ _
      | exact LeO.none _
      | refine LeO.ite ?_ ?_
      | refine LeO.bind ?_ (fun _ => ?_)
theorem laws_toIntS.mono : ∀ a0 k, LeO (laws_toIntS.f k a0) (laws_toIntS.f (k + 1) a0) := by
  intro a0 k
  have ih0 := laws_toIntS.mono_l k
  unfold laws_toIntS.f
  repeat' first
      | (with_reducible exact ih0 _ _ _)
      | (with_reducible exact LeO.refl _)
      | (with_reducible exact LeO.none _)
      | (with_reducible refine LeO.ite ?_ ?_)
      | (with_reducible refine LeO.bind ?_ (fun _ => ?_))
      | exact ih0 _ _ _
      | exact LeO.none _
      | refine LeO.ite ?_ ?_
      | refine LeO.bind ?_ (fun _ => ?_)
set_option maxHeartbeats 8000000 in
set_option maxRecDepth 100000 in
theorem laws_toIntS.calls (k : Nat) (A0 : Option Addr) (c0 : Nat) (l0 : List Int) (r : List Int) (w : World) (hr0 : Kd.C (Kd.int .i64) w A0 l0.length l0) (hc0 : l0.length ≤ c0) (h : laws_toIntS.f k l0 = some r) :
    Calls Try.prog 40 #[.slice A0 l0.length c0] w fun e w' => ∃ v0_ : Value, e = .returned (v0_) ∧ Kd.R (Kd.int .i64) 3 w' w.heap.size (fun _ => True) v0_ r ∧ Below w.heap.size w w' := by
  have HR0 := zK hr0
  have HC0 := zK hc0
  clear hr0 hc0
  have HB := zK (Below.refl w.heap.size w)
  have H : (if 0 ≤ (l0.length : Int) then (if ((l0.length : Int) : Int).toNat ≤ 35184372088832 then (laws_toIntS.l0 k l0 (List.replicate ((l0.length : Int) : Int).toNat 0) 0) else (none)) else (none)) = some r := h
  clear h
  by_cases c2 : 0 ≤ (l0.length : Int)
  rotate_left
  · rw [if_neg c2] at H
    exact absurd H (by simp)
  rw [if_pos c2] at H
  have c2b0 := eq_true c2
  have c2b1 : decide (0 ≤ (l0.length : Int)) = true := decide_eq_true c2
  clear c2
  by_cases c3 : ((l0.length : Int) : Int).toNat ≤ 35184372088832
  rotate_left
  · rw [if_neg c3] at H
    exact absurd H (by simp)
  rw [if_pos c3] at H
  have c3b0 := eq_true c3
  have c3b1 : decide (((l0.length : Int) : Int).toNat ≤ 35184372088832) = true := decide_eq_true c3
  clear c3
  obtain ⟨y178, hy178⟩ : ∃ y_ : List Int, y_ = (List.replicate ((l0.length : Int) : Int).toNat 0) := ⟨_, rfl⟩
  replace H : (laws_toIntS.l0 k l0 y178 0) = some r := by first | (rw [hy178]; with_reducible exact H) | (have H2_ := (Option.bind_some _ _).symm.trans H; rw [hy178]; with_reducible exact H2_) | (have H2_ := (Option.bind_some _ _).symm.trans H; with_reducible exact H2_) | with_reducible exact H | (rw [hy178]; exact H) | exact H
  have Ny178 := zK hy178
  clear hy178
  have H' := zK H
  clear H
  go_enter Try.func40, Try.ntmps40
  go_wp2_with (first | ((with_reducible refine gate_dst (N := 7) rfl ?_); refine Kd.R_make (Kd.int .i64) _ 3 rfl (N := 7) rfl 26 _ _ rfl (l0.length : Int) rfl rfl Try.underlying26 (.int .i64 0) 8 info3 rfl (by decide) (by omega) 0 (ok := fun _ => True) (okp := fun _ => True) rfl (fun _ hk => hk) trivial (of_decide_eq_true zA) (Nat.le_trans (Nat.mul_le_mul_right _ (of_decide_eq_true zA : (l0.length : Int).toNat ≤ 35184372088832)) (by omega)) (Below.refl _ _) (Nat.le_refl _) ?_; intro v179 w4 ho5 hb hg_ hnew_; clear hg_ hnew_; (first | rw [← Ny178.out] at ho5 | (simp only [Int.reduceToNat] at ho5; rw [← Ny178.out] at ho5)); have n0_ := zK (Kd.R_lower ho5 (zz zB)); have n1_ := zK (zp zB hb); clear HB; have HO180 := n0_; have HB := n1_; clear n0_ n1_; clear hb ho5))
  go_loopg [4] k (fun kq v4 w' => ∃ (x3_1 : List Int) (x4_1 : Int), v4 = .int .i64 x4_1 ∧ Aside0 (laws_toIntS.l0 kq l0 x3_1 x4_1 = some r) ∧ Aside0 (kq ≤ k) ∧ Aside0 (Kd.R (Kd.int .i64) 3 w' w.heap.size (fun _ => True) v179 x3_1) ∧ Aside0 (Below w.heap.size w w'))
  case atStart => exact ⟨(y178), (0), zR, H', ⟨Nat.le_refl _⟩, ⟨zkR HO180⟩, ⟨zB⟩⟩
  clear H'
  try clear c2
  try clear c2b0
  try clear c2b1
  try clear p2
  try clear c3
  try clear c3b0
  try clear c3b1
  try clear c4
  obtain ⟨x3_1, x4_1, rfl, HA, HK1, HO_3, HB⟩ := hrel
  rcases gk with _ | k1
  · exact absurd HA.out (by simp [laws_toIntS.l0])
  have H := HA.out
  clear HA
  simp only [laws_toIntS.l0] at H
  by_cases c6 : x4_1 < (l0.length : Int)
  rotate_left
  · rw [if_neg c6] at H
    have c6b0 : decide (x4_1 < (l0.length : Int)) = false := decide_eq_false c6
    clear c6
    obtain rfl := Option.some.inj H
    go_wp2
    go_ret
    exact ⟨_, zE, by (with_reducible repeat (first | apply Kd.R_alloc | apply Kd.R_drewN | apply Kd.R_drew)); exact HO_3.out, zB⟩
  rw [if_pos c6] at H
  have c6b0 : decide (x4_1 < (l0.length : Int)) = true := decide_eq_true c6
  clear c6
  by_cases c7 : 0 ≤ x4_1
  rotate_left
  · rw [if_neg c7] at H
    exact absurd H (by simp)
  rw [if_pos c7] at H
  have c7b0 : decide (0 ≤ x4_1) = true := decide_eq_true c7
  clear c7
  by_cases c8 : x4_1 < (x3_1.length : Int)
  rotate_left
  · rw [if_neg c8] at H
    exact absurd H (by simp)
  rw [if_pos c8] at H
  have c8b0 : decide (x4_1 < (x3_1.length : Int)) = true := decide_eq_true c8
  clear c8
  obtain ⟨y182, hy182⟩ : ∃ y_ : List Int, y_ = (x3_1.set (x4_1 : Int).toNat (rd l0 x4_1)) := ⟨_, rfl⟩
  replace H : (laws_toIntS.l0 k1 l0 y182 (wrap64 (x4_1 + 1))) = some r := by first | (rw [hy182]; with_reducible exact H) | (have H2_ := (Option.bind_some _ _).symm.trans H; rw [hy182]; with_reducible exact H2_) | (have H2_ := (Option.bind_some _ _).symm.trans H; with_reducible exact H2_) | with_reducible exact H | (rw [hy182]; exact H) | exact H
  have Ny182 := zK hy182
  clear hy182
  have H' := zK H
  clear H
  have p181 : 0 ≤ (x4_1 : Int) := of_decide_eq_true zA
  have q181 : x4_1 < (l0.length : Int) := of_decide_eq_true zA
  obtain ⟨ad181, e181, hx181_0⟩ := Kd.at_int HR0.out x4_1 p181 q181
  cases e181
  (try replace hx181_0 := zX HB hx181_0)
  replace p181 := eq_true p181
  replace q181 := eq_true q181
  have p9 : 0 ≤ (x4_1 : Int) := of_decide_eq_true zA
  have q9 : (x4_1 : Int) < ((x3_1.length : Int) : Int) := of_decide_eq_true zA
  obtain ⟨go9, co9, eo9, gb9, gl9, cl9, HG9⟩ := Kd.R_form HO_3.out (by omega)
  (first | cases eo9 | (injection eo9 with ea_ en_ ec_; (first | subst ea_ | (injection ea_ with ea_; subst ea_)); subst ec_; clear en_))
  have GB9 := zK gb9
  have GG9 := zK HG9
  clear gb9 gl9 HG9
  obtain ⟨hx9_0, hf9_0⟩ := Kd.R_celln 0 HO_3.out (x4_1 : Int) p9 q9
  replace p9 := eq_true p9
  replace q9 := eq_true q9
  have HP10 := Kd.R_putg HO_3.out (x4_1 : Int) (rd l0 x4_1)
  go_wp2_with (first | ((with_reducible refine gate_store (t := 3) (p := 20) rfl ?_); refine store_event (t := 3) (p := 20) (v := ?vo_w11) (w1 := (wr.setCell ⟨go9, (x4_1 : Int).toNat, none⟩ (.int .i64 (rd l0 x4_1)))) ?hg ?ho ?hn ?hr ?_; (case ho => rfl); (case hg => rfl); (case hn => rfl); (case hr => first | (go_simp; done) | (go_simp; rfl)); intro w11 hw; have hg : wr.grownBy w11 (some go9) := (by rw [hw]; exact HP10.2); have hp_ : Kd.R (Kd.int .i64) 3 w11 w.heap.size (fun _ => True) (.slice (some ⟨go9, 0, none⟩) x3_1.length co9) y182 := (by rw [hw, Ny182.out]; exact HP10.1); clear HP10; have n0_ := zK (hp_); have n1_ := zK ((by rw [hw]; exact zs (HB.out) GB9.out : Below w.heap.size w w11)); clear HO_3; clear HB; have HO_3 := n0_; have HB := n1_; clear n0_ n1_; clear hg hw hp_))
  go_roundg k1
  case measure => have := HK1.out; omega
  case rel => exact ⟨(y182), (wrap64 (x4_1 + 1)), zR, H', ⟨by have := HK1.out; omega⟩, ⟨zkR HO_3⟩, ⟨zB⟩⟩

/-! ### laws_toFix: function 148 -/
def laws_toFix.f (k : Nat) (a0_0 : Int) (l0_1 : List Int) : Option (Int × List Int) := (laws_toIntS.f k l0_1).bind fun t186 => (some (a0_0, t186))
theorem laws_toFix.mono : ∀ a0 a1 k, LeO (laws_toFix.f k a0 a1) (laws_toFix.f (k + 1) a0 a1) := by
  intro a0 a1 k
  unfold laws_toFix.f
  repeat' first
      | (with_reducible exact laws_toIntS.mono _ _)
      | (with_reducible exact LeO.refl _)
      | (with_reducible exact LeO.none _)
      | (with_reducible refine LeO.ite ?_ ?_)
      | (with_reducible refine LeO.bind ?_ (fun _ => ?_))
      | exact laws_toIntS.mono _ _
      | exact LeO.none _
      | refine LeO.ite ?_ ?_
      | refine LeO.bind ?_ (fun _ => ?_)
set_option maxHeartbeats 8000000 in
set_option maxRecDepth 100000 in
theorem laws_toFix.calls (k : Nat) (a0_0 : Int) (A0_1 : Option Addr) (c0_1 : Nat) (l0_1 : List Int) (r1 : Int) (r2 : List Int) (w : World) (hr0_1 : Kd.C (Kd.int .i64) w A0_1 l0_1.length l0_1) (hc0_1 : l0_1.length ≤ c0_1) (h : laws_toFix.f k a0_0 l0_1 = some (r1, r2)) :
    Calls Try.prog 148 #[.agg #[.int .i64 a0_0, .slice A0_1 l0_1.length c0_1]] w fun e w' => ∃ v1_ : Value, e = .returned (.agg #[.int .i64 r1, v1_]) ∧ Kd.R (Kd.int .i64) 3 w' w.heap.size (fun _ => True) v1_ r2 ∧ Below w.heap.size w w' := by
  have hu166 := Try.underlying166
  have hu125 := Try.underlying125
  have HR0_1 := zK hr0_1
  have HC0_1 := zK hc0_1
  clear hr0_1 hc0_1
  have HB := zK (Below.refl w.heap.size w)
  have H : ((laws_toIntS.f k l0_1).bind fun t186 => (some (a0_0, t186))) = some (r1, r2) := h
  clear h
  replace H := Option.bind_eq_some_iff.mp H
  obtain ⟨t186, A20, H⟩ := H
  replace H : (some (a0_0, t186)) = some (r1, r2) := H
  have A2 := zK A20
  clear A20
  simp only [Option.some.injEq, Prod.mk.injEq] at H
  obtain ⟨rfl, rfl⟩ := H
  go_enter Try.func148, Try.ntmps148
  go_wp2_with (first | ((with_reducible refine gate_dst (N := 1) rfl ?_); refine zJ 1 #[.int .i64 a0_0, .slice A0_1 l0_1.length c0_1] 166 ?_; intro gb183 hg w3 hbox hb; have n0_ := zK (zp zB hb); have n1_ := zK (hbox); have n2_ := zK (zI hg zB); have n3_ := zK (zI hg zB); clear HB; have HB := n0_; have BK183 := n1_; have GW183 := n2_; have GE183 := n3_; clear n0_ n1_ n2_ n3_; clear hb hbox hg) | ((with_reducible refine gate_dst (N := 2) rfl ?_); refine zJ 2 #[.int .i64 0, .slice none 0 0] 125 ?_; intro gb184 hg w4 hbox hb; have n0_ := zK (zg (zM BK183) hb); have n1_ := zK (zp zB hb); have n2_ := zK (hbox); have n3_ := zK (zI hg zB); have n4_ := zK (zI hg zB); have n5_ := zK (zH hg (zM BK183)); have n6_ := zK (zG hg (zM BK183)); clear BK183; clear HB; have BK183 := n0_; have HB := n1_; have BK184 := n2_; have GW184 := n3_; have GE184 := n4_; have NB183_184 := n5_; have NB184_183 := n6_; clear n0_ n1_ n2_ n3_ n4_ n5_ n6_; clear hb hbox hg) | ((with_reducible refine gate_dst (N := 3) rfl ?_); refine zJ 3 #[.int .i64 0, .slice none 0 0] 125 ?_; intro gb185 hg w5 hbox hb; have n0_ := zK (zg (zM BK183) hb); have n1_ := zK (zg (zM BK184) hb); have n2_ := zK (zp zB hb); have n3_ := zK (hbox); have n4_ := zK (zI hg zB); have n5_ := zK (zI hg zB); have n6_ := zK (zH hg (zM BK183)); have n7_ := zK (zG hg (zM BK183)); have n8_ := zK (zH hg (zM BK184)); have n9_ := zK (zG hg (zM BK184)); clear BK183; clear BK184; clear HB; have BK183 := n0_; have BK184 := n1_; have HB := n2_; have BK185 := n3_; have GW185 := n4_; have GE185 := n5_; have NB183_185 := n6_; have NB185_183 := n7_; have NB184_185 := n8_; have NB185_184 := n9_; clear n0_ n1_ n2_ n3_ n4_ n5_ n6_ n7_ n8_ n9_; clear hb hbox hg; have hnb6 := NB183_184.out; have hnc6 := NB184_183.out; have hnb7 := NB183_185.out; have hnc7 := NB185_183.out; obtain ⟨hcz8_0, hcz8_1, hfz8_0, hfz8_1⟩ := zc2 BK183; have hnb9 := NB185_184.out; have hnc9 := NB184_185.out; obtain ⟨hcz10_0, hcz10_1, hfz10_0, hfz10_1⟩ := zc2 BK185) | ((with_reducible refine gate_callee (f := 40) rfl ?_); refine zF 9 Try.func40 #[.slice A0_1 l0_1.length c0_1] rfl zL ?_; (with_reducible refine (laws_toIntS.calls k _ _ l0_1 t186 _ ?side1 ?side2 A2.out).mono ?_); (case side1 => exact Kd.C_below HR0_1.out zB); (case side2 => exact HC0_1.out); rintro e w11 ⟨v187, rfl, ho0, hb⟩; refine ⟨_, rfl, ?_⟩; have n0_ := zK (Kd.R_lower ho0 (zz zB)); have n1_ := zK (zg (g := gb183) (o := .cells #[.int .i64 a0_0, .slice A0_1 l0_1.length c0_1] 166 (0, 0)) (by (with_reducible repeat (first | refine zn ?_ _ | refine zd ?_ | refine za ?_ _)); refine blk_far ?_ NB183_185.out _; (with_reducible repeat (first | refine zn ?_ _ | refine zd ?_ | refine za ?_ _)); exact BK183.out) hb); have n2_ := zK (zg (g := gb184) (o := .cells #[.int .i64 0, .slice none 0 0] 125 (0, 0)) (by (with_reducible repeat (first | refine zn ?_ _ | refine zd ?_ | refine za ?_ _)); refine blk_far ?_ NB184_185.out _; (with_reducible repeat (first | refine zn ?_ _ | refine zd ?_ | refine za ?_ _)); exact BK184.out) hb); have n3_ := zK (zg (g := gb185) (o := .cells #[.int .i64 a0_0, .slice none 0 0] 125 (0, 0)) (by (with_reducible repeat (first | refine zn ?_ _ | refine zd ?_ | refine za ?_ _)); refine blk_put (cs := #[.int .i64 0, .slice none 0 0]) ?_ 0 _ rfl; (with_reducible repeat (first | refine zn ?_ _ | refine zd ?_ | refine za ?_ _)); exact BK185.out) hb); have n4_ := zK (zp zB hb); clear BK183; clear BK184; clear BK185; clear HB; have HO188 := n0_; have BK183 := n1_; have BK184 := n2_; have BK185 := n3_; have HB := n4_; clear n0_ n1_ n2_ n3_ n4_; (try clear hb); (try clear hb2); (try clear hk); (try clear hi); (try clear ho0); obtain ⟨Ao12, co12, eo12⟩ := Kd.R_slice HO188.out; subst eo12; obtain ⟨hcz13_0, hcz13_1, hfz13_0, hfz13_1⟩ := zc2 BK185; obtain ⟨hcz14_0, hcz14_1, hfz14_0, hfz14_1⟩ := zc2 BK184))
  refine bodyPost_ret (results_cell_row rfl _ _ gb184 125 #[.int .i64 a0_0, .slice Ao12 t186.length co12] (0, 0) _ rfl (by (with_reducible repeat (first | refine zn ?_ _ | refine zd ?_ | refine za ?_ _)); refine blk_put (cs := #[.int .i64 a0_0, .slice none 0 0]) ?_ 1 _ rfl; (with_reducible repeat (first | refine zn ?_ _ | refine zd ?_ | refine za ?_ _)); refine blk_put (cs := #[.int .i64 0, .slice none 0 0]) ?_ 0 _ rfl; (with_reducible repeat (first | refine zn ?_ _ | refine zd ?_ | refine za ?_ _)); refine blk_far ?_ NB184_185.out _; (with_reducible repeat (first | refine zn ?_ _ | refine zd ?_ | refine za ?_ _)); exact BK184.out) Try.underlying125 rfl (by kernel_rfl)) rfl ?_
  exact ⟨_, zE, by (with_reducible repeat (first | apply Kd.R_alloc | apply Kd.R_drewN | apply Kd.R_drew)); exact Kd.R_mono (Kd.R_far (p := ⟨gb184, 1, none⟩) (Kd.R_far (p := ⟨gb184, 0, none⟩) (Kd.R_far (p := ⟨gb185, 1, none⟩) (Kd.R_types (Kd.R_types HO188.out BK185.out (by decide)) BK184.out (by decide)) (fun _ hk => hk.1.2) (.slice Ao12 t186.length co12)) (fun _ hk => hk.2) (.int .i64 a0_0)) (fun _ hk => hk.2) (.slice Ao12 t186.length co12)) (fun _ hk => trivial), zB⟩

/-! ### laws_toFixS: function 90 -/
def laws_toFixS.l0 : Nat → List (S166) → List (S125) → Int → Option ((List (S125)))
  | 0, _, _, _ => none
  | k + 1, x0, x3, x4 => if x4 < (x0.length : Int) then (if 0 ≤ x4 then ((laws_toFix.f k ((rd_T166 x0 x4).f0) ((rd_T166 x0 x4).f1)).bind fun bt193 => (if x4 < (x3.length : Int) then (laws_toFixS.l0 k x0 (x3.set (x4 : Int).toNat (⟨bt193.1, bt193.2⟩ : S125)) (wrap64 (x4 + 1))) else (none))) else (none)) else (some x3)
def laws_toFixS.f (k : Nat) (l0 : List (S166)) : Option ((List (S125))) := if 0 ≤ (l0.length : Int) then (if ((l0.length : Int) : Int).toNat ≤ 8796093022208 then (laws_toFixS.l0 k l0 (List.replicate ((l0.length : Int) : Int).toNat z125) 0) else (none)) else (none)
theorem laws_toFixS.mono_l : ∀ k, (∀ y0 y1 y2, LeO (laws_toFixS.l0 k y0 y1 y2) (laws_toFixS.l0 (k + 1) y0 y1 y2))
  | 0 => fun _ _ _ r h => by simp [laws_toFixS.l0] at h
  | k + 1 => by
    have ih0 := laws_toFixS.mono_l k
    · intro y0 y1 y2
      unfold laws_toFixS.l0
      repeat' first
      | (with_reducible exact ih0 _ _ _)
      | (with_reducible exact laws_toFix.mono _ _ _)
      | (with_reducible exact LeO.refl _)
      | (with_reducible exact LeO.none _)
      | (with_reducible refine LeO.ite ?_ ?_)
      | (with_reducible refine LeO.bind ?_ (fun _ => ?_))
      | exact ih0 _ _ _
      | exact laws_toFix.mono _ _ _
      | exact LeO.none _
      | refine LeO.ite ?_ ?_
      | refine LeO.bind ?_ (fun _ => ?_)
theorem laws_toFixS.mono : ∀ a0 k, LeO (laws_toFixS.f k a0) (laws_toFixS.f (k + 1) a0) := by
  intro a0 k
  have ih0 := laws_toFixS.mono_l k
  unfold laws_toFixS.f
  repeat' first
      | (with_reducible exact ih0 _ _ _)
      | (with_reducible exact laws_toFix.mono _ _ _)
      | (with_reducible exact LeO.refl _)
      | (with_reducible exact LeO.none _)
      | (with_reducible refine LeO.ite ?_ ?_)
      | (with_reducible refine LeO.bind ?_ (fun _ => ?_))
      | exact ih0 _ _ _
      | exact laws_toFix.mono _ _ _
      | exact LeO.none _
      | refine LeO.ite ?_ ?_
      | refine LeO.bind ?_ (fun _ => ?_)
set_option maxHeartbeats 8000000 in
set_option maxRecDepth 100000 in
theorem laws_toFixS.calls (k : Nat) (A0 : Option Addr) (c0 : Nat) (l0 : List (S166)) (r : List (S125)) (w : World) (hr0 : Kd.C k166 w A0 l0.length l0) (hc0 : l0.length ≤ c0) (h : laws_toFixS.f k l0 = some r) :
    Calls Try.prog 90 #[.slice A0 l0.length c0] w fun e w' => ∃ v0_ : Value, e = .returned (v0_) ∧ Kd.S k125 125 w' w.heap.size (fun _ => True) v0_ r ∧ Below w.heap.size w w' := by
  have hu166 := Try.underlying166
  have hu125 := Try.underlying125
  have HR0 := zK hr0
  have HC0 := zK hc0
  clear hr0 hc0
  have HB := zK (Below.refl w.heap.size w)
  have H : (if 0 ≤ (l0.length : Int) then (if ((l0.length : Int) : Int).toNat ≤ 8796093022208 then (laws_toFixS.l0 k l0 (List.replicate ((l0.length : Int) : Int).toNat z125) 0) else (none)) else (none)) = some r := h
  clear h
  by_cases c2 : 0 ≤ (l0.length : Int)
  rotate_left
  · rw [if_neg c2] at H
    exact absurd H (by simp)
  rw [if_pos c2] at H
  have c2b0 := eq_true c2
  have c2b1 : decide (0 ≤ (l0.length : Int)) = true := decide_eq_true c2
  clear c2
  by_cases c3 : ((l0.length : Int) : Int).toNat ≤ 8796093022208
  rotate_left
  · rw [if_neg c3] at H
    exact absurd H (by simp)
  rw [if_pos c3] at H
  have c3b0 := eq_true c3
  have c3b1 : decide (((l0.length : Int) : Int).toNat ≤ 8796093022208) = true := decide_eq_true c3
  clear c3
  obtain ⟨y189, hy189⟩ : ∃ y_ : List (S125), y_ = (List.replicate ((l0.length : Int) : Int).toNat z125) := ⟨_, rfl⟩
  replace H : (laws_toFixS.l0 k l0 y189 0) = some r := by first | (rw [hy189]; with_reducible exact H) | (have H2_ := (Option.bind_some _ _).symm.trans H; rw [hy189]; with_reducible exact H2_) | (have H2_ := (Option.bind_some _ _).symm.trans H; with_reducible exact H2_) | with_reducible exact H | (rw [hy189]; exact H) | exact H
  have Ny189 := zK hy189
  clear hy189
  have H' := zK H
  clear H
  go_enter Try.func90, Try.ntmps90
  go_wp2_with (first | ((with_reducible refine gate_dst (N := 7) rfl ?_); refine Kd.S_make k125 _ 125 rfl (N := 7) rfl 67 _ _ rfl (l0.length : Int) rfl rfl Try.underlying67 (.agg #[(.int .i64 0), (.slice none 0 0)]) 32 info125 rfl (by decide) (by omega) z125 (ok := fun _ => True) (okp := fun _ => True) (k125_mkM _ _ _ z125 (Kd.R_nil _ _ _ _ _)) (fun _ hk => hk) trivial (of_decide_eq_true zA) (Nat.le_trans (Nat.mul_le_mul_right _ (of_decide_eq_true zA : (l0.length : Int).toNat ≤ 8796093022208)) (by omega)) (Below.refl _ _) (Nat.le_refl _) ?_; intro v190 w4 ho5 hb hg_ hnew_; clear hg_ hnew_; (first | rw [← Ny189.out] at ho5 | (simp only [Int.reduceToNat] at ho5; rw [← Ny189.out] at ho5)); have n0_ := zK (Kd.S_lower ho5 (zz zB)); have n1_ := zK (zp zB hb); clear HB; have HO191 := n0_; have HB := n1_; clear n0_ n1_; clear hb ho5))
  go_loopg [4] k (fun kq v4 w' => ∃ (x3_1 : List (S125)) (x4_1 : Int), v4 = .int .i64 x4_1 ∧ Aside0 (laws_toFixS.l0 kq l0 x3_1 x4_1 = some r) ∧ Aside0 (kq ≤ k) ∧ Aside0 (Kd.S k125 125 w' w.heap.size (fun _ => True) v190 x3_1) ∧ Aside0 (Below w.heap.size w w'))
  case atStart => exact ⟨(y189), (0), zR, H', ⟨Nat.le_refl _⟩, ⟨zkS HO191⟩, ⟨zB⟩⟩
  clear H'
  try clear c2
  try clear c2b0
  try clear c2b1
  try clear p2
  try clear c3
  try clear c3b0
  try clear c3b1
  obtain ⟨x3_1, x4_1, rfl, HA, HK1, HO_3, HB⟩ := hrel
  rcases gk with _ | k1
  · exact absurd HA.out (by simp [laws_toFixS.l0])
  have H := HA.out
  clear HA
  simp only [laws_toFixS.l0] at H
  by_cases c6 : x4_1 < (l0.length : Int)
  rotate_left
  · rw [if_neg c6] at H
    have c6b0 : decide (x4_1 < (l0.length : Int)) = false := decide_eq_false c6
    clear c6
    obtain rfl := Option.some.inj H
    go_wp2
    go_ret
    exact ⟨_, zE, by (with_reducible repeat (first | apply Kd.S_alloc | apply Kd.S_drewN | apply Kd.S_drew)); exact HO_3.out, zB⟩
  rw [if_pos c6] at H
  have c6b0 : decide (x4_1 < (l0.length : Int)) = true := decide_eq_true c6
  clear c6
  by_cases c7 : 0 ≤ x4_1
  rotate_left
  · rw [if_neg c7] at H
    exact absurd H (by simp)
  rw [if_pos c7] at H
  have c7b0 : decide (0 ≤ x4_1) = true := decide_eq_true c7
  clear c7
  replace H := Option.bind_eq_some_iff.mp H
  obtain ⟨⟨t193, t194⟩, A80, H⟩ := H
  replace H : (if x4_1 < (x3_1.length : Int) then (laws_toFixS.l0 k1 l0 (x3_1.set (x4_1 : Int).toNat (⟨t193, t194⟩ : S125)) (wrap64 (x4_1 + 1))) else (none)) = some r := H
  have A8 := zK A80
  clear A80
  by_cases c9 : x4_1 < (x3_1.length : Int)
  rotate_left
  · rw [if_neg c9] at H
    exact absurd H (by simp)
  rw [if_pos c9] at H
  have c9b0 : decide (x4_1 < (x3_1.length : Int)) = true := decide_eq_true c9
  clear c9
  obtain ⟨y197, hy197⟩ : ∃ y_ : List (S125), y_ = (x3_1.set (x4_1 : Int).toNat (⟨t193, t194⟩ : S125)) := ⟨_, rfl⟩
  replace H : (laws_toFixS.l0 k1 l0 y197 (wrap64 (x4_1 + 1))) = some r := by first | (rw [hy197]; with_reducible exact H) | (have H2_ := (Option.bind_some _ _).symm.trans H; rw [hy197]; with_reducible exact H2_) | (have H2_ := (Option.bind_some _ _).symm.trans H; with_reducible exact H2_) | with_reducible exact H | (rw [hy197]; exact H) | exact H
  have Ny197 := zK hy197
  clear hy197
  have H' := zK H
  clear H
  have p192 : 0 ≤ (x4_1 : Int) := of_decide_eq_true zA
  have q192 : x4_1 < (l0.length : Int) := of_decide_eq_true zA
  obtain ⟨ad192, A192_1, c192_1, e192, hx192_0, hx192_1, hl192_1, hi192_1⟩ := at_T166 HR0.out x4_1 p192 q192
  cases e192
  (try replace hx192_0 := zX HB hx192_0)
  (try replace hx192_1 := zX HB hx192_1)
  have HR192_1 := zK hi192_1
  have HC192_1 := zK hl192_1
  clear hi192_1 hl192_1
  replace p192 := eq_true p192
  replace q192 := eq_true q192
  go_wp2_with (first | ((with_reducible refine gate_callee (f := 148) rfl ?_); refine zF 20 Try.func148 #[.agg #[.int .i64 ((rd_T166 l0 x4_1).f0), .slice A192_1 ((rd_T166 l0 x4_1).f1).length c192_1]] rfl zL ?_; (with_reducible refine (laws_toFix.calls k1 ((rd_T166 l0 x4_1).f0) _ _ ((rd_T166 l0 x4_1).f1) t193 t194 _ ?side1 ?side2 A8.out).mono ?_); (case side1 => exact zC (Kd.C_below HR192_1.out HB.out)); (case side2 => exact HC192_1.out); rintro e w11 ⟨v195, rfl, ho0, hb⟩; refine ⟨_, rfl, ?_⟩; have n0_ := zK (Kd.S_elder' (zkS HO_3) (Kd.R_base ho0) hb); have n1_ := zK (Kd.R_lower ho0 (zz zB)); have n2_ := zK (zp zB hb); clear HO_3; clear HB; have HO_3 := n0_; have HO196 := n1_; have HB := n2_; clear n0_ n1_ n2_; (try clear hb); (try clear hb2); (try clear hk); (try clear hi); (try clear ho0); have p10 : 0 ≤ (x4_1 : Int) := of_decide_eq_true zA; have q10 : (x4_1 : Int) < ((x3_1.length : Int) : Int) := of_decide_eq_true zA; obtain ⟨go10, co10, eo10, gb10, gl10, cl10, HG10⟩ := Kd.S_form HO_3.out (by omega); (first | cases eo10 | (injection eo10 with ea_ en_ ec_; (first | subst ea_ | (injection ea_ with ea_; subst ea_)); subst ec_; clear en_)); have GB10 := zK gb10; have GG10 := zK HG10; clear gb10 gl10 HG10; obtain ⟨_, ce10, hcl10, hM10, hcc10, hfr10, _, _⟩ := Kd.S_elem HO_3.out z125 (x4_1 : Int) p10 q10; obtain ⟨ve10_1, rfl, ge10_1⟩ := k125_openM hM10; have hx10_0 : w11.cell? ⟨go10, (x4_1 : Int).toNat * 2, none⟩ = some (.int .i64 ((rd_T125 x3_1 x4_1).f0)) := hcc10 0 _ rfl; have hx10_1 : w11.cell? ⟨go10, (x4_1 : Int).toNat * 2 + 1, none⟩ = some (ve10_1) := hcc10 1 _ rfl; have hf10_0 : w11.frozen? ⟨go10, (x4_1 : Int).toNat * 2, none⟩ = false := hfr10 0; have hf10_1 : w11.frozen? ⟨go10, (x4_1 : Int).toNat * 2 + 1, none⟩ = false := hfr10 1; clear hcl10 hcc10 hfr10 hM10; replace p10 := eq_true p10; replace q10 := eq_true q10; obtain ⟨Ao12, co12, eo12⟩ := Kd.R_slice HO196.out; subst eo12; have n_ := zK (Kd.S_mono (ok' := (fun k_ => some k_ ≠ (.slice Ao12 t194.length co12 : Value).ownBlock)) HO_3.out (fun k_ hk => hk.2)); clear HO_3; have HO_3 := n_; clear n_; have HX13 := zK (show Kd.S k125 125 w11 w.heap.size (fun k_ => ((fun _ => True)) k_ ∧ ¬ ((fun k_ => some k_ = (.slice Ao12 t194.length co12 : Value).ownBlock)) k_) (.slice (some ⟨go10, 0, none⟩) x3_1.length co10) x3_1 from (by (with_reducible repeat (first | apply Kd.S_alloc | apply Kd.S_drewN | apply Kd.S_drew)); exact Kd.S_mono HO_3.out (fun k_ hk => ⟨trivial, fun e_ => hk e_⟩))); obtain ⟨oki13, ce13, hcl13, hM13, hcc13, hfr13, hoki13, hH13⟩ := Kd.S_elem HX13.out z125 (x4_1 : Int) (of_decide_eq_true zA) (by have h_ : (x4_1 : Int) < ((x3_1.length : Int) : Int) := of_decide_eq_true zA; first | exact h_ | (have e_ := (Kd.S_reads' HO_3.out).1; omega) | simpa using h_); obtain ⟨ve13_1, rfl, ge13_1⟩ := k125_openM hM13; have HP13 := Kd.S_seg hH13 (of_decide_eq_true zA) (by have h_ : (x4_1 : Int) < ((x3_1.length : Int) : Int) := of_decide_eq_true zA; first | exact h_ | (have e_ := (Kd.S_reads' HO_3.out).1; omega) | simpa using h_) (seg := [.int .i64 t193, .slice Ao12 t194.length co12]) (j := 0) (show 2 ≤ 2 from by decide) (x' := (⟨t193, t194⟩ : S125)) (k125_mkM _ _ _ (⟨t193, t194⟩ : S125) (Kd.R_mono (Kd.R_tight rfl (Kd.R_mono (ok' := fun k_ => ((fun _ => True)) k_ ∧ k_ ≠ go10) (Kd.R_apart' (HO196.out) (Kd.S_typed HO_3.out) (by decide)) (fun k_ hk => ⟨trivial, fun e_ => (hk.2) (by rw [e_]; rfl)⟩))) (fun _ h_ => Or.inr (h_)))) (fun _ hk => hk) (fun k_ hk_ => ((Kd.R_mono (ok' := fun k_ => ((fun _ => True)) k_ ∧ k_ ≠ go10) (Kd.R_apart' (HO196.out) (Kd.S_typed HO_3.out) (by decide)) (fun k_ hk => ⟨trivial, fun e_ => (hk.2) (by rw [e_]; rfl)⟩))).1 k_ hk_.symm); have hx13_0 := hcc13 0 _ rfl; (try simp only [show (k125).sz = 2 from rfl, Nat.mul_one, Nat.add_zero] at hx13_0); have hf13_0 := hfr13 0; (try simp only [show (k125).sz = 2 from rfl, Nat.mul_one, Nat.add_zero] at hf13_0); have hx13_1 := hcc13 1 _ rfl; (try simp only [show (k125).sz = 2 from rfl, Nat.mul_one, Nat.add_zero] at hx13_1); have hf13_1 := hfr13 1; (try simp only [show (k125).sz = 2 from rfl, Nat.mul_one, Nat.add_zero] at hf13_1); clear hcl13 hcc13 hfr13 hM13 hoki13 hH13) | ((with_reducible refine gate_store (t := 125) (p := 21) rfl ?_); refine store_event (t := 125) (p := 21) (v := ?vo_w14) (w1 := ((w11.setCell ⟨go10, (x4_1 : Int).toNat * 2, none⟩ (.int .i64 t193)).setCell ⟨go10, (x4_1 : Int).toNat * 2 + 1, none⟩ (.slice Ao12 t194.length co12))) ?hg ?ho ?hn ?hr ?_; (case ho => rfl); (case hg => rfl); (case hn => rfl); (case hr => first | (go_simp; done) | (go_simp; rfl)); intro w14 hw; have hg : w11.grownBy w14 (some go10) := (by rw [hw]; exact HP13.2); have hp_ : Kd.S k125 125 w14 w.heap.size (fun _ => True) (.slice (some ⟨go10, 0, none⟩) x3_1.length co10) y197 := (by rw [hw, Ny197.out]; exact HP13.1); clear HP13; have n0_ := zK (hp_); have n1_ := zK ((by rw [hw]; exact zs (zs (HB.out) GB10.out) GB10.out : Below w.heap.size w w14)); clear HO_3; clear HB; clear HO196; have HO_3 := n0_; have HB := n1_; clear n0_ n1_; clear hg hw hp_))
  go_roundg k1
  case measure => have := HK1.out; omega
  case rel => exact ⟨(y197), (wrap64 (x4_1 + 1)), zR, H', ⟨by have := HK1.out; omega⟩, ⟨zkS HO_3⟩, ⟨zB⟩⟩

/-! ### laws_toAccess: function 192 -/
def laws_toAccess.f (k : Nat) (a0_0 : Int) (a0_1 : Int) (l0_2 : List Int) : Option (Int × Int × List Int) := (laws_toIntS.f k l0_2).bind fun t201 => (some (a0_0, a0_1, t201))
theorem laws_toAccess.mono : ∀ a0 a1 a2 k, LeO (laws_toAccess.f k a0 a1 a2) (laws_toAccess.f (k + 1) a0 a1 a2) := by
  intro a0 a1 a2 k
  unfold laws_toAccess.f
  repeat' first
      | (with_reducible exact laws_toIntS.mono _ _)
      | (with_reducible exact LeO.refl _)
      | (with_reducible exact LeO.none _)
      | (with_reducible refine LeO.ite ?_ ?_)
      | (with_reducible refine LeO.bind ?_ (fun _ => ?_))
      | exact laws_toIntS.mono _ _
      | exact LeO.none _
      | refine LeO.ite ?_ ?_
      | refine LeO.bind ?_ (fun _ => ?_)
set_option maxHeartbeats 8000000 in
set_option maxRecDepth 100000 in
theorem laws_toAccess.calls (k : Nat) (a0_0 : Int) (a0_1 : Int) (A0_2 : Option Addr) (c0_2 : Nat) (l0_2 : List Int) (r1 : Int) (r2 : Int) (r3 : List Int) (w : World) (hr0_2 : Kd.C (Kd.int .i64) w A0_2 l0_2.length l0_2) (hc0_2 : l0_2.length ≤ c0_2) (h : laws_toAccess.f k a0_0 a0_1 l0_2 = some (r1, r2, r3)) :
    Calls Try.prog 192 #[.agg #[.int .i64 a0_0, .int .i64 a0_1, .slice A0_2 l0_2.length c0_2]] w fun e w' => ∃ v2_ : Value, e = .returned (.agg #[.int .i64 r1, .int .i64 r2, v2_]) ∧ Kd.R (Kd.int .i64) 3 w' w.heap.size (fun _ => True) v2_ r3 ∧ Below w.heap.size w w' := by
  have hu169 := Try.underlying169
  have hu129 := Try.underlying129
  have HR0_2 := zK hr0_2
  have HC0_2 := zK hc0_2
  clear hr0_2 hc0_2
  have HB := zK (Below.refl w.heap.size w)
  have H : ((laws_toIntS.f k l0_2).bind fun t201 => (some (a0_0, a0_1, t201))) = some (r1, r2, r3) := h
  clear h
  replace H := Option.bind_eq_some_iff.mp H
  obtain ⟨t201, A20, H⟩ := H
  replace H : (some (a0_0, a0_1, t201)) = some (r1, r2, r3) := H
  have A2 := zK A20
  clear A20
  simp only [Option.some.injEq, Prod.mk.injEq] at H
  obtain ⟨rfl, rfl, rfl⟩ := H
  go_enter Try.func192, Try.ntmps192
  go_wp2_with (first | ((with_reducible refine gate_dst (N := 1) rfl ?_); refine zJ 1 #[.int .i64 a0_0, .int .i64 a0_1, .slice A0_2 l0_2.length c0_2] 169 ?_; intro gb198 hg w3 hbox hb; have n0_ := zK (zp zB hb); have n1_ := zK (hbox); have n2_ := zK (zI hg zB); have n3_ := zK (zI hg zB); clear HB; have HB := n0_; have BK198 := n1_; have GW198 := n2_; have GE198 := n3_; clear n0_ n1_ n2_ n3_; clear hb hbox hg) | ((with_reducible refine gate_dst (N := 2) rfl ?_); refine zJ 2 #[.int .i64 0, .int .i64 0, .slice none 0 0] 129 ?_; intro gb199 hg w4 hbox hb; have n0_ := zK (zg (zM BK198) hb); have n1_ := zK (zp zB hb); have n2_ := zK (hbox); have n3_ := zK (zI hg zB); have n4_ := zK (zI hg zB); have n5_ := zK (zH hg (zM BK198)); have n6_ := zK (zG hg (zM BK198)); clear BK198; clear HB; have BK198 := n0_; have HB := n1_; have BK199 := n2_; have GW199 := n3_; have GE199 := n4_; have NB198_199 := n5_; have NB199_198 := n6_; clear n0_ n1_ n2_ n3_ n4_ n5_ n6_; clear hb hbox hg) | ((with_reducible refine gate_dst (N := 3) rfl ?_); refine zJ 3 #[.int .i64 0, .int .i64 0, .slice none 0 0] 129 ?_; intro gb200 hg w5 hbox hb; have n0_ := zK (zg (zM BK198) hb); have n1_ := zK (zg (zM BK199) hb); have n2_ := zK (zp zB hb); have n3_ := zK (hbox); have n4_ := zK (zI hg zB); have n5_ := zK (zI hg zB); have n6_ := zK (zH hg (zM BK198)); have n7_ := zK (zG hg (zM BK198)); have n8_ := zK (zH hg (zM BK199)); have n9_ := zK (zG hg (zM BK199)); clear BK198; clear BK199; clear HB; have BK198 := n0_; have BK199 := n1_; have HB := n2_; have BK200 := n3_; have GW200 := n4_; have GE200 := n5_; have NB198_200 := n6_; have NB200_198 := n7_; have NB199_200 := n8_; have NB200_199 := n9_; clear n0_ n1_ n2_ n3_ n4_ n5_ n6_ n7_ n8_ n9_; clear hb hbox hg; have hnb6 := NB198_199.out; have hnc6 := NB199_198.out; have hnb7 := NB198_200.out; have hnc7 := NB200_198.out; obtain ⟨hcz8_0, hcz8_1, hcz8_2, hfz8_0, hfz8_1, hfz8_2⟩ := zc3 BK198; have hnb9 := NB200_199.out; have hnc9 := NB199_200.out; obtain ⟨hcz10_0, hcz10_1, hcz10_2, hfz10_0, hfz10_1, hfz10_2⟩ := zc3 BK200) | ((with_reducible refine gate_callee (f := 40) rfl ?_); refine zF 12 Try.func40 #[.slice A0_2 l0_2.length c0_2] rfl zL ?_; (with_reducible refine (laws_toIntS.calls k _ _ l0_2 t201 _ ?side1 ?side2 A2.out).mono ?_); (case side1 => exact Kd.C_below HR0_2.out zB); (case side2 => exact HC0_2.out); rintro e w11 ⟨v202, rfl, ho0, hb⟩; refine ⟨_, rfl, ?_⟩; have n0_ := zK (Kd.R_lower ho0 (zz zB)); have n1_ := zK (zg (g := gb198) (o := .cells #[.int .i64 a0_0, .int .i64 a0_1, .slice A0_2 l0_2.length c0_2] 169 (0, 0)) (by (with_reducible repeat (first | refine zn ?_ _ | refine zd ?_ | refine za ?_ _)); refine blk_far ?_ NB198_200.out _; (with_reducible repeat (first | refine zn ?_ _ | refine zd ?_ | refine za ?_ _)); refine blk_far ?_ NB198_200.out _; (with_reducible repeat (first | refine zn ?_ _ | refine zd ?_ | refine za ?_ _)); exact BK198.out) hb); have n2_ := zK (zg (g := gb199) (o := .cells #[.int .i64 0, .int .i64 0, .slice none 0 0] 129 (0, 0)) (by (with_reducible repeat (first | refine zn ?_ _ | refine zd ?_ | refine za ?_ _)); refine blk_far ?_ NB199_200.out _; (with_reducible repeat (first | refine zn ?_ _ | refine zd ?_ | refine za ?_ _)); refine blk_far ?_ NB199_200.out _; (with_reducible repeat (first | refine zn ?_ _ | refine zd ?_ | refine za ?_ _)); exact BK199.out) hb); have n3_ := zK (zg (g := gb200) (o := .cells #[.int .i64 a0_0, .int .i64 a0_1, .slice none 0 0] 129 (0, 0)) (by (with_reducible repeat (first | refine zn ?_ _ | refine zd ?_ | refine za ?_ _)); refine blk_put (cs := #[.int .i64 a0_0, .int .i64 0, .slice none 0 0]) ?_ 1 _ rfl; (with_reducible repeat (first | refine zn ?_ _ | refine zd ?_ | refine za ?_ _)); refine blk_put (cs := #[.int .i64 0, .int .i64 0, .slice none 0 0]) ?_ 0 _ rfl; (with_reducible repeat (first | refine zn ?_ _ | refine zd ?_ | refine za ?_ _)); exact BK200.out) hb); have n4_ := zK (zp zB hb); clear BK198; clear BK199; clear BK200; clear HB; have HO203 := n0_; have BK198 := n1_; have BK199 := n2_; have BK200 := n3_; have HB := n4_; clear n0_ n1_ n2_ n3_ n4_; (try clear hb); (try clear hb2); (try clear hk); (try clear hi); (try clear ho0); obtain ⟨Ao12, co12, eo12⟩ := Kd.R_slice HO203.out; subst eo12; obtain ⟨hcz13_0, hcz13_1, hcz13_2, hfz13_0, hfz13_1, hfz13_2⟩ := zc3 BK200; obtain ⟨hcz14_0, hcz14_1, hcz14_2, hfz14_0, hfz14_1, hfz14_2⟩ := zc3 BK199))
  refine bodyPost_ret (results_cell_row rfl _ _ gb199 129 #[.int .i64 a0_0, .int .i64 a0_1, .slice Ao12 t201.length co12] (0, 0) _ rfl (by (with_reducible repeat (first | refine zn ?_ _ | refine zd ?_ | refine za ?_ _)); refine blk_put (cs := #[.int .i64 a0_0, .int .i64 a0_1, .slice none 0 0]) ?_ 2 _ rfl; (with_reducible repeat (first | refine zn ?_ _ | refine zd ?_ | refine za ?_ _)); refine blk_put (cs := #[.int .i64 a0_0, .int .i64 0, .slice none 0 0]) ?_ 1 _ rfl; (with_reducible repeat (first | refine zn ?_ _ | refine zd ?_ | refine za ?_ _)); refine blk_put (cs := #[.int .i64 0, .int .i64 0, .slice none 0 0]) ?_ 0 _ rfl; (with_reducible repeat (first | refine zn ?_ _ | refine zd ?_ | refine za ?_ _)); refine blk_far ?_ NB199_200.out _; (with_reducible repeat (first | refine zn ?_ _ | refine zd ?_ | refine za ?_ _)); exact BK199.out) Try.underlying129 rfl (by kernel_rfl)) rfl ?_
  exact ⟨_, zE, by (with_reducible repeat (first | apply Kd.R_alloc | apply Kd.R_drewN | apply Kd.R_drew)); exact Kd.R_mono (Kd.R_far (p := ⟨gb199, 2, none⟩) (Kd.R_far (p := ⟨gb199, 1, none⟩) (Kd.R_far (p := ⟨gb199, 0, none⟩) (Kd.R_far (p := ⟨gb200, 2, none⟩) (Kd.R_types (Kd.R_types HO203.out BK200.out (by decide)) BK199.out (by decide)) (fun _ hk => hk.1.2) (.slice Ao12 t201.length co12)) (fun _ hk => hk.2) (.int .i64 a0_0)) (fun _ hk => hk.2) (.int .i64 a0_1)) (fun _ hk => hk.2) (.slice Ao12 t201.length co12)) (fun _ hk => trivial), zB⟩

/-! ### laws_toAccessS: function 191 -/
def laws_toAccessS.l0 : Nat → List (S169) → List (S129) → Int → Option ((List (S129)))
  | 0, _, _, _ => none
  | k + 1, x0, x3, x4 => if x4 < (x0.length : Int) then (if 0 ≤ x4 then ((laws_toAccess.f k ((rd_T169 x0 x4).f0) ((rd_T169 x0 x4).f1) ((rd_T169 x0 x4).f2)).bind fun bt208 => (if x4 < (x3.length : Int) then (laws_toAccessS.l0 k x0 (x3.set (x4 : Int).toNat (⟨bt208.1, bt208.2.1, bt208.2.2⟩ : S129)) (wrap64 (x4 + 1))) else (none))) else (none)) else (some x3)
def laws_toAccessS.f (k : Nat) (l0 : List (S169)) : Option ((List (S129))) := if 0 ≤ (l0.length : Int) then (if ((l0.length : Int) : Int).toNat ≤ 7036874417766 then (laws_toAccessS.l0 k l0 (List.replicate ((l0.length : Int) : Int).toNat z129) 0) else (none)) else (none)
theorem laws_toAccessS.mono_l : ∀ k, (∀ y0 y1 y2, LeO (laws_toAccessS.l0 k y0 y1 y2) (laws_toAccessS.l0 (k + 1) y0 y1 y2))
  | 0 => fun _ _ _ r h => by simp [laws_toAccessS.l0] at h
  | k + 1 => by
    have ih0 := laws_toAccessS.mono_l k
    · intro y0 y1 y2
      unfold laws_toAccessS.l0
      repeat' first
      | (with_reducible exact ih0 _ _ _)
      | (with_reducible exact laws_toAccess.mono _ _ _ _)
      | (with_reducible exact LeO.refl _)
      | (with_reducible exact LeO.none _)
      | (with_reducible refine LeO.ite ?_ ?_)
      | (with_reducible refine LeO.bind ?_ (fun _ => ?_))
      | exact ih0 _ _ _
      | exact laws_toAccess.mono _ _ _ _
      | exact LeO.none _
      | refine LeO.ite ?_ ?_
      | refine LeO.bind ?_ (fun _ => ?_)
theorem laws_toAccessS.mono : ∀ a0 k, LeO (laws_toAccessS.f k a0) (laws_toAccessS.f (k + 1) a0) := by
  intro a0 k
  have ih0 := laws_toAccessS.mono_l k
  unfold laws_toAccessS.f
  repeat' first
      | (with_reducible exact ih0 _ _ _)
      | (with_reducible exact laws_toAccess.mono _ _ _ _)
      | (with_reducible exact LeO.refl _)
      | (with_reducible exact LeO.none _)
      | (with_reducible refine LeO.ite ?_ ?_)
      | (with_reducible refine LeO.bind ?_ (fun _ => ?_))
      | exact ih0 _ _ _
      | exact laws_toAccess.mono _ _ _ _
      | exact LeO.none _
      | refine LeO.ite ?_ ?_
      | refine LeO.bind ?_ (fun _ => ?_)
set_option maxHeartbeats 8000000 in
set_option maxRecDepth 100000 in
theorem laws_toAccessS.calls (k : Nat) (A0 : Option Addr) (c0 : Nat) (l0 : List (S169)) (r : List (S129)) (w : World) (hr0 : Kd.C k169 w A0 l0.length l0) (hc0 : l0.length ≤ c0) (h : laws_toAccessS.f k l0 = some r) :
    Calls Try.prog 191 #[.slice A0 l0.length c0] w fun e w' => ∃ v0_ : Value, e = .returned (v0_) ∧ Kd.S k129 129 w' w.heap.size (fun _ => True) v0_ r ∧ Below w.heap.size w w' := by
  have hu169 := Try.underlying169
  have hu129 := Try.underlying129
  have HR0 := zK hr0
  have HC0 := zK hc0
  clear hr0 hc0
  have HB := zK (Below.refl w.heap.size w)
  have H : (if 0 ≤ (l0.length : Int) then (if ((l0.length : Int) : Int).toNat ≤ 7036874417766 then (laws_toAccessS.l0 k l0 (List.replicate ((l0.length : Int) : Int).toNat z129) 0) else (none)) else (none)) = some r := h
  clear h
  by_cases c2 : 0 ≤ (l0.length : Int)
  rotate_left
  · rw [if_neg c2] at H
    exact absurd H (by simp)
  rw [if_pos c2] at H
  have c2b0 := eq_true c2
  have c2b1 : decide (0 ≤ (l0.length : Int)) = true := decide_eq_true c2
  clear c2
  by_cases c3 : ((l0.length : Int) : Int).toNat ≤ 7036874417766
  rotate_left
  · rw [if_neg c3] at H
    exact absurd H (by simp)
  rw [if_pos c3] at H
  have c3b0 := eq_true c3
  have c3b1 : decide (((l0.length : Int) : Int).toNat ≤ 7036874417766) = true := decide_eq_true c3
  clear c3
  obtain ⟨y204, hy204⟩ : ∃ y_ : List (S129), y_ = (List.replicate ((l0.length : Int) : Int).toNat z129) := ⟨_, rfl⟩
  replace H : (laws_toAccessS.l0 k l0 y204 0) = some r := by first | (rw [hy204]; with_reducible exact H) | (have H2_ := (Option.bind_some _ _).symm.trans H; rw [hy204]; with_reducible exact H2_) | (have H2_ := (Option.bind_some _ _).symm.trans H; with_reducible exact H2_) | with_reducible exact H | (rw [hy204]; exact H) | exact H
  have Ny204 := zK hy204
  clear hy204
  have H' := zK H
  clear H
  go_enter Try.func191, Try.ntmps191
  go_wp2_with (first | ((with_reducible refine gate_dst (N := 7) rfl ?_); refine Kd.S_make k129 _ 129 rfl (N := 7) rfl 127 _ _ rfl (l0.length : Int) rfl rfl Try.underlying127 (.agg #[(.int .i64 0), (.int .i64 0), (.slice none 0 0)]) 40 info129 rfl (by decide) (by omega) z129 (ok := fun _ => True) (okp := fun _ => True) (k129_mkM _ _ _ z129 (Kd.R_nil _ _ _ _ _)) (fun _ hk => hk) trivial (of_decide_eq_true zA) (Nat.le_trans (Nat.mul_le_mul_right _ (of_decide_eq_true zA : (l0.length : Int).toNat ≤ 7036874417766)) (by omega)) (Below.refl _ _) (Nat.le_refl _) ?_; intro v205 w4 ho5 hb hg_ hnew_; clear hg_ hnew_; (first | rw [← Ny204.out] at ho5 | (simp only [Int.reduceToNat] at ho5; rw [← Ny204.out] at ho5)); have n0_ := zK (Kd.S_lower ho5 (zz zB)); have n1_ := zK (zp zB hb); clear HB; have HO206 := n0_; have HB := n1_; clear n0_ n1_; clear hb ho5))
  go_loopg [4] k (fun kq v4 w' => ∃ (x3_1 : List (S129)) (x4_1 : Int), v4 = .int .i64 x4_1 ∧ Aside0 (laws_toAccessS.l0 kq l0 x3_1 x4_1 = some r) ∧ Aside0 (kq ≤ k) ∧ Aside0 (Kd.S k129 129 w' w.heap.size (fun _ => True) v205 x3_1) ∧ Aside0 (Below w.heap.size w w'))
  case atStart => exact ⟨(y204), (0), zR, H', ⟨Nat.le_refl _⟩, ⟨zkS HO206⟩, ⟨zB⟩⟩
  clear H'
  try clear c1
  try clear c2
  try clear c2b0
  try clear c2b1
  try clear p2
  try clear c3
  try clear c3b0
  try clear c3b1
  obtain ⟨x3_1, x4_1, rfl, HA, HK1, HO_3, HB⟩ := hrel
  rcases gk with _ | k1
  · exact absurd HA.out (by simp [laws_toAccessS.l0])
  have H := HA.out
  clear HA
  simp only [laws_toAccessS.l0] at H
  by_cases c6 : x4_1 < (l0.length : Int)
  rotate_left
  · rw [if_neg c6] at H
    have c6b0 : decide (x4_1 < (l0.length : Int)) = false := decide_eq_false c6
    clear c6
    obtain rfl := Option.some.inj H
    go_wp2
    go_ret
    exact ⟨_, zE, by (with_reducible repeat (first | apply Kd.S_alloc | apply Kd.S_drewN | apply Kd.S_drew)); exact HO_3.out, zB⟩
  rw [if_pos c6] at H
  have c6b0 : decide (x4_1 < (l0.length : Int)) = true := decide_eq_true c6
  clear c6
  by_cases c7 : 0 ≤ x4_1
  rotate_left
  · rw [if_neg c7] at H
    exact absurd H (by simp)
  rw [if_pos c7] at H
  have c7b0 : decide (0 ≤ x4_1) = true := decide_eq_true c7
  clear c7
  replace H := Option.bind_eq_some_iff.mp H
  obtain ⟨⟨t208, t209, t210⟩, A80, H⟩ := H
  replace H : (if x4_1 < (x3_1.length : Int) then (laws_toAccessS.l0 k1 l0 (x3_1.set (x4_1 : Int).toNat (⟨t208, t209, t210⟩ : S129)) (wrap64 (x4_1 + 1))) else (none)) = some r := H
  have A8 := zK A80
  clear A80
  by_cases c9 : x4_1 < (x3_1.length : Int)
  rotate_left
  · rw [if_neg c9] at H
    exact absurd H (by simp)
  rw [if_pos c9] at H
  have c9b0 : decide (x4_1 < (x3_1.length : Int)) = true := decide_eq_true c9
  clear c9
  obtain ⟨y213, hy213⟩ : ∃ y_ : List (S129), y_ = (x3_1.set (x4_1 : Int).toNat (⟨t208, t209, t210⟩ : S129)) := ⟨_, rfl⟩
  replace H : (laws_toAccessS.l0 k1 l0 y213 (wrap64 (x4_1 + 1))) = some r := by first | (rw [hy213]; with_reducible exact H) | (have H2_ := (Option.bind_some _ _).symm.trans H; rw [hy213]; with_reducible exact H2_) | (have H2_ := (Option.bind_some _ _).symm.trans H; with_reducible exact H2_) | with_reducible exact H | (rw [hy213]; exact H) | exact H
  have Ny213 := zK hy213
  clear hy213
  have H' := zK H
  clear H
  have p207 : 0 ≤ (x4_1 : Int) := of_decide_eq_true zA
  have q207 : x4_1 < (l0.length : Int) := of_decide_eq_true zA
  obtain ⟨ad207, A207_2, c207_2, e207, hx207_0, hx207_1, hx207_2, hl207_2, hi207_2⟩ := at_T169 HR0.out x4_1 p207 q207
  cases e207
  (try replace hx207_0 := zX HB hx207_0)
  (try replace hx207_1 := zX HB hx207_1)
  (try replace hx207_2 := zX HB hx207_2)
  have HR207_2 := zK hi207_2
  have HC207_2 := zK hl207_2
  clear hi207_2 hl207_2
  replace p207 := eq_true p207
  replace q207 := eq_true q207
  go_wp2_with (first | ((with_reducible refine gate_callee (f := 192) rfl ?_); refine zF 20 Try.func192 #[.agg #[.int .i64 ((rd_T169 l0 x4_1).f0), .int .i64 ((rd_T169 l0 x4_1).f1), .slice A207_2 ((rd_T169 l0 x4_1).f2).length c207_2]] rfl zL ?_; (with_reducible refine (laws_toAccess.calls k1 ((rd_T169 l0 x4_1).f0) ((rd_T169 l0 x4_1).f1) _ _ ((rd_T169 l0 x4_1).f2) t208 t209 t210 _ ?side1 ?side2 A8.out).mono ?_); (case side1 => exact zC (Kd.C_below HR207_2.out HB.out)); (case side2 => exact HC207_2.out); rintro e w11 ⟨v211, rfl, ho0, hb⟩; refine ⟨_, rfl, ?_⟩; have n0_ := zK (Kd.S_elder' (zkS HO_3) (Kd.R_base ho0) hb); have n1_ := zK (Kd.R_lower ho0 (zz zB)); have n2_ := zK (zp zB hb); clear HO_3; clear HB; have HO_3 := n0_; have HO212 := n1_; have HB := n2_; clear n0_ n1_ n2_; (try clear hb); (try clear hb2); (try clear hk); (try clear hi); (try clear ho0); have p10 : 0 ≤ (x4_1 : Int) := of_decide_eq_true zA; have q10 : (x4_1 : Int) < ((x3_1.length : Int) : Int) := of_decide_eq_true zA; obtain ⟨go10, co10, eo10, gb10, gl10, cl10, HG10⟩ := Kd.S_form HO_3.out (by omega); (first | cases eo10 | (injection eo10 with ea_ en_ ec_; (first | subst ea_ | (injection ea_ with ea_; subst ea_)); subst ec_; clear en_)); have GB10 := zK gb10; have GG10 := zK HG10; clear gb10 gl10 HG10; obtain ⟨_, ce10, hcl10, hM10, hcc10, hfr10, _, _⟩ := Kd.S_elem HO_3.out z129 (x4_1 : Int) p10 q10; obtain ⟨ve10_2, rfl, ge10_2⟩ := k129_openM hM10; have hx10_0 : w11.cell? ⟨go10, (x4_1 : Int).toNat * 3, none⟩ = some (.int .i64 ((rd_T129 x3_1 x4_1).f0)) := hcc10 0 _ rfl; have hx10_1 : w11.cell? ⟨go10, (x4_1 : Int).toNat * 3 + 1, none⟩ = some (.int .i64 ((rd_T129 x3_1 x4_1).f1)) := hcc10 1 _ rfl; have hx10_2 : w11.cell? ⟨go10, (x4_1 : Int).toNat * 3 + 2, none⟩ = some (ve10_2) := hcc10 2 _ rfl; have hf10_0 : w11.frozen? ⟨go10, (x4_1 : Int).toNat * 3, none⟩ = false := hfr10 0; have hf10_1 : w11.frozen? ⟨go10, (x4_1 : Int).toNat * 3 + 1, none⟩ = false := hfr10 1; have hf10_2 : w11.frozen? ⟨go10, (x4_1 : Int).toNat * 3 + 2, none⟩ = false := hfr10 2; clear hcl10 hcc10 hfr10 hM10; replace p10 := eq_true p10; replace q10 := eq_true q10; obtain ⟨Ao12, co12, eo12⟩ := Kd.R_slice HO212.out; subst eo12; have n_ := zK (Kd.S_mono (ok' := (fun k_ => some k_ ≠ (.slice Ao12 t210.length co12 : Value).ownBlock)) HO_3.out (fun k_ hk => hk.2)); clear HO_3; have HO_3 := n_; clear n_; have HX13 := zK (show Kd.S k129 129 w11 w.heap.size (fun k_ => ((fun _ => True)) k_ ∧ ¬ ((fun k_ => some k_ = (.slice Ao12 t210.length co12 : Value).ownBlock)) k_) (.slice (some ⟨go10, 0, none⟩) x3_1.length co10) x3_1 from (by (with_reducible repeat (first | apply Kd.S_alloc | apply Kd.S_drewN | apply Kd.S_drew)); exact Kd.S_mono HO_3.out (fun k_ hk => ⟨trivial, fun e_ => hk e_⟩))); obtain ⟨oki13, ce13, hcl13, hM13, hcc13, hfr13, hoki13, hH13⟩ := Kd.S_elem HX13.out z129 (x4_1 : Int) (of_decide_eq_true zA) (by have h_ : (x4_1 : Int) < ((x3_1.length : Int) : Int) := of_decide_eq_true zA; first | exact h_ | (have e_ := (Kd.S_reads' HO_3.out).1; omega) | simpa using h_); obtain ⟨ve13_2, rfl, ge13_2⟩ := k129_openM hM13; have HP13 := Kd.S_seg hH13 (of_decide_eq_true zA) (by have h_ : (x4_1 : Int) < ((x3_1.length : Int) : Int) := of_decide_eq_true zA; first | exact h_ | (have e_ := (Kd.S_reads' HO_3.out).1; omega) | simpa using h_) (seg := [.int .i64 t208, .int .i64 t209, .slice Ao12 t210.length co12]) (j := 0) (show 3 ≤ 3 from by decide) (x' := (⟨t208, t209, t210⟩ : S129)) (k129_mkM _ _ _ (⟨t208, t209, t210⟩ : S129) (Kd.R_mono (Kd.R_tight rfl (Kd.R_mono (ok' := fun k_ => ((fun _ => True)) k_ ∧ k_ ≠ go10) (Kd.R_apart' (HO212.out) (Kd.S_typed HO_3.out) (by decide)) (fun k_ hk => ⟨trivial, fun e_ => (hk.2) (by rw [e_]; rfl)⟩))) (fun _ h_ => Or.inr (h_)))) (fun _ hk => hk) (fun k_ hk_ => ((Kd.R_mono (ok' := fun k_ => ((fun _ => True)) k_ ∧ k_ ≠ go10) (Kd.R_apart' (HO212.out) (Kd.S_typed HO_3.out) (by decide)) (fun k_ hk => ⟨trivial, fun e_ => (hk.2) (by rw [e_]; rfl)⟩))).1 k_ hk_.symm); have hx13_0 := hcc13 0 _ rfl; (try simp only [show (k129).sz = 3 from rfl, Nat.mul_one, Nat.add_zero] at hx13_0); have hf13_0 := hfr13 0; (try simp only [show (k129).sz = 3 from rfl, Nat.mul_one, Nat.add_zero] at hf13_0); have hx13_1 := hcc13 1 _ rfl; (try simp only [show (k129).sz = 3 from rfl, Nat.mul_one, Nat.add_zero] at hx13_1); have hf13_1 := hfr13 1; (try simp only [show (k129).sz = 3 from rfl, Nat.mul_one, Nat.add_zero] at hf13_1); have hx13_2 := hcc13 2 _ rfl; (try simp only [show (k129).sz = 3 from rfl, Nat.mul_one, Nat.add_zero] at hx13_2); have hf13_2 := hfr13 2; (try simp only [show (k129).sz = 3 from rfl, Nat.mul_one, Nat.add_zero] at hf13_2); clear hcl13 hcc13 hfr13 hM13 hoki13 hH13) | ((with_reducible refine gate_store (t := 129) (p := 21) rfl ?_); refine store_event (t := 129) (p := 21) (v := ?vo_w14) (w1 := (((w11.setCell ⟨go10, (x4_1 : Int).toNat * 3, none⟩ (.int .i64 t208)).setCell ⟨go10, (x4_1 : Int).toNat * 3 + 1, none⟩ (.int .i64 t209)).setCell ⟨go10, (x4_1 : Int).toNat * 3 + 2, none⟩ (.slice Ao12 t210.length co12))) ?hg ?ho ?hn ?hr ?_; (case ho => rfl); (case hg => rfl); (case hn => rfl); (case hr => first | (go_simp; done) | (go_simp; rfl)); intro w14 hw; have hg : w11.grownBy w14 (some go10) := (by rw [hw]; exact HP13.2); have hp_ : Kd.S k129 129 w14 w.heap.size (fun _ => True) (.slice (some ⟨go10, 0, none⟩) x3_1.length co10) y213 := (by rw [hw, Ny213.out]; exact HP13.1); clear HP13; have n0_ := zK (hp_); have n1_ := zK ((by rw [hw]; exact zs (zs (zs (HB.out) GB10.out) GB10.out) GB10.out : Below w.heap.size w w14)); clear HO_3; clear HB; clear HO212; have HO_3 := n0_; have HB := n1_; clear n0_ n1_; clear hg hw hp_))
  go_roundg k1
  case measure => have := HK1.out; omega
  case rel => exact ⟨(y213), (wrap64 (x4_1 + 1)), zR, H', ⟨by have := HK1.out; omega⟩, ⟨zkS HO_3⟩, ⟨zB⟩⟩

/-! ### laws_toCalc: function 217 -/
def laws_toCalc.f (a0_0 : Int) (a0_1 : Int) (a0_2 : Int) : Option (Int × Int × Int) := some (a0_0, a0_1, a0_2)
set_option maxHeartbeats 8000000 in
set_option maxRecDepth 100000 in
theorem laws_toCalc.calls (a0_0 : Int) (a0_1 : Int) (a0_2 : Int) (r1 : Int) (r2 : Int) (r3 : Int) (w : World) (h : laws_toCalc.f a0_0 a0_1 a0_2 = some (r1, r2, r3)) :
    Calls Try.prog 217 #[.agg #[.int .i64 a0_0, .int .i64 a0_1, .int .i64 a0_2]] w fun e w' => e = .returned (.agg #[.int .i64 r1, .int .i64 r2, .int .i64 r3]) ∧ Below w.heap.size w w' := by
  have hu230 := Try.underlying230
  have hu204 := Try.underlying204
  have HB := zK (Below.refl w.heap.size w)
  have H : (some (a0_0, a0_1, a0_2)) = some (r1, r2, r3) := h
  clear h
  simp only [Option.some.injEq, Prod.mk.injEq] at H
  obtain ⟨rfl, rfl, rfl⟩ := H
  go_enter Try.func217, Try.ntmps217
  go_wp2_with (first | ((with_reducible refine gate_dst (N := 1) rfl ?_); refine zJ 1 #[.int .i64 a0_0, .int .i64 a0_1, .int .i64 a0_2] 230 ?_; intro gb214 hg w2 hbox hb; have n0_ := zK (zp zB hb); have n1_ := zK (hbox); have n2_ := zK (zI hg zB); have n3_ := zK (zI hg zB); clear HB; have HB := n0_; have BK214 := n1_; have GW214 := n2_; have GE214 := n3_; clear n0_ n1_ n2_ n3_; clear hb hbox hg) | ((with_reducible refine gate_dst (N := 2) rfl ?_); refine zJ 2 #[.int .i64 0, .int .i64 0, .int .i64 0] 204 ?_; intro gb215 hg w3 hbox hb; have n0_ := zK (zg (zM BK214) hb); have n1_ := zK (zp zB hb); have n2_ := zK (hbox); have n3_ := zK (zI hg zB); have n4_ := zK (zI hg zB); have n5_ := zK (zH hg (zM BK214)); have n6_ := zK (zG hg (zM BK214)); clear BK214; clear HB; have BK214 := n0_; have HB := n1_; have BK215 := n2_; have GW215 := n3_; have GE215 := n4_; have NB214_215 := n5_; have NB215_214 := n6_; clear n0_ n1_ n2_ n3_ n4_ n5_ n6_; clear hb hbox hg) | ((with_reducible refine gate_dst (N := 3) rfl ?_); refine zJ 3 #[.int .i64 0, .int .i64 0, .int .i64 0] 204 ?_; intro gb216 hg w4 hbox hb; have n0_ := zK (zg (zM BK214) hb); have n1_ := zK (zg (zM BK215) hb); have n2_ := zK (zp zB hb); have n3_ := zK (hbox); have n4_ := zK (zI hg zB); have n5_ := zK (zI hg zB); have n6_ := zK (zH hg (zM BK214)); have n7_ := zK (zG hg (zM BK214)); have n8_ := zK (zH hg (zM BK215)); have n9_ := zK (zG hg (zM BK215)); clear BK214; clear BK215; clear HB; have BK214 := n0_; have BK215 := n1_; have HB := n2_; have BK216 := n3_; have GW216 := n4_; have GE216 := n5_; have NB214_216 := n6_; have NB216_214 := n7_; have NB215_216 := n8_; have NB216_215 := n9_; clear n0_ n1_ n2_ n3_ n4_ n5_ n6_ n7_ n8_ n9_; clear hb hbox hg; have hnb5 := NB214_215.out; have hnc5 := NB215_214.out; have hnb6 := NB214_216.out; have hnc6 := NB216_214.out; obtain ⟨hcz7_0, hcz7_1, hcz7_2, hfz7_0, hfz7_1, hfz7_2⟩ := zc3 BK214; have hnb8 := NB216_215.out; have hnc8 := NB215_216.out; obtain ⟨hcz9_0, hcz9_1, hcz9_2, hfz9_0, hfz9_1, hfz9_2⟩ := zc3 BK216; obtain ⟨hcz10_0, hcz10_1, hcz10_2, hfz10_0, hfz10_1, hfz10_2⟩ := zc3 BK215))
  refine bodyPost_ret (results_cell_row rfl _ _ gb215 204 #[.int .i64 a0_0, .int .i64 a0_1, .int .i64 a0_2] (0, 0) _ rfl (by (with_reducible repeat (first | refine zn ?_ _ | refine zd ?_ | refine za ?_ _)); refine blk_put (cs := #[.int .i64 a0_0, .int .i64 a0_1, .int .i64 0]) ?_ 2 _ rfl; (with_reducible repeat (first | refine zn ?_ _ | refine zd ?_ | refine za ?_ _)); refine blk_put (cs := #[.int .i64 a0_0, .int .i64 0, .int .i64 0]) ?_ 1 _ rfl; (with_reducible repeat (first | refine zn ?_ _ | refine zd ?_ | refine za ?_ _)); refine blk_put (cs := #[.int .i64 0, .int .i64 0, .int .i64 0]) ?_ 0 _ rfl; (with_reducible repeat (first | refine zn ?_ _ | refine zd ?_ | refine za ?_ _)); refine blk_far ?_ NB215_216.out _; (with_reducible repeat (first | refine zn ?_ _ | refine zd ?_ | refine za ?_ _)); refine blk_far ?_ NB215_216.out _; (with_reducible repeat (first | refine zn ?_ _ | refine zd ?_ | refine za ?_ _)); refine blk_far ?_ NB215_216.out _; (with_reducible repeat (first | refine zn ?_ _ | refine zd ?_ | refine za ?_ _)); exact BK215.out) Try.underlying204 rfl (by kernel_rfl)) rfl ?_
  exact ⟨zE, zB⟩

/-! ### laws_toCalcS: function 193 -/
def laws_toCalcS.l0 : Nat → List (S230) → List (S204) → Int → Option ((List (S204)))
  | 0, _, _, _ => none
  | k + 1, x0, x3, x4 => if x4 < (x0.length : Int) then (if 0 ≤ x4 then ((laws_toCalc.f ((rd_T230 x0 x4).f0) ((rd_T230 x0 x4).f1) ((rd_T230 x0 x4).f2)).bind fun bt221 => (if x4 < (x3.length : Int) then (laws_toCalcS.l0 k x0 (x3.set (x4 : Int).toNat (⟨bt221.1, bt221.2.1, bt221.2.2⟩ : S204)) (wrap64 (x4 + 1))) else (none))) else (none)) else (some x3)
def laws_toCalcS.f (k : Nat) (l0 : List (S230)) : Option ((List (S204))) := if 0 ≤ (l0.length : Int) then (if ((l0.length : Int) : Int).toNat ≤ 11728124029610 then (laws_toCalcS.l0 k l0 (List.replicate ((l0.length : Int) : Int).toNat z204) 0) else (none)) else (none)
theorem laws_toCalcS.mono_l : ∀ k, (∀ y0 y1 y2, LeO (laws_toCalcS.l0 k y0 y1 y2) (laws_toCalcS.l0 (k + 1) y0 y1 y2))
  | 0 => fun _ _ _ r h => by simp [laws_toCalcS.l0] at h
  | k + 1 => by
    have ih0 := laws_toCalcS.mono_l k
    · intro y0 y1 y2
      unfold laws_toCalcS.l0
      repeat' first
      | (with_reducible exact ih0 _ _ _)
      | (with_reducible exact LeO.refl _)
      | (with_reducible exact LeO.none _)
      | (with_reducible refine LeO.ite ?_ ?_)
      | (with_reducible refine LeO.bind ?_ (fun _ => ?_))
      | exact ih0 _ _ _
      | exact LeO.none _
      | refine LeO.ite ?_ ?_
      | refine LeO.bind ?_ (fun _ => ?_)
theorem laws_toCalcS.mono : ∀ a0 k, LeO (laws_toCalcS.f k a0) (laws_toCalcS.f (k + 1) a0) := by
  intro a0 k
  have ih0 := laws_toCalcS.mono_l k
  unfold laws_toCalcS.f
  repeat' first
      | (with_reducible exact ih0 _ _ _)
      | (with_reducible exact LeO.refl _)
      | (with_reducible exact LeO.none _)
      | (with_reducible refine LeO.ite ?_ ?_)
      | (with_reducible refine LeO.bind ?_ (fun _ => ?_))
      | exact ih0 _ _ _
      | exact LeO.none _
      | refine LeO.ite ?_ ?_
      | refine LeO.bind ?_ (fun _ => ?_)
set_option maxHeartbeats 8000000 in
set_option maxRecDepth 100000 in
theorem laws_toCalcS.calls (k : Nat) (A0 : Option Addr) (c0 : Nat) (l0 : List (S230)) (r : List (S204)) (w : World) (hr0 : Kd.C k230 w A0 l0.length l0) (hc0 : l0.length ≤ c0) (h : laws_toCalcS.f k l0 = some r) :
    Calls Try.prog 193 #[.slice A0 l0.length c0] w fun e w' => ∃ v0_ : Value, e = .returned (v0_) ∧ Kd.R k204 204 w' w.heap.size (fun _ => True) v0_ r ∧ Below w.heap.size w w' := by
  have hu230 := Try.underlying230
  have hu204 := Try.underlying204
  have HR0 := zK hr0
  have HC0 := zK hc0
  clear hr0 hc0
  have HB := zK (Below.refl w.heap.size w)
  have H : (if 0 ≤ (l0.length : Int) then (if ((l0.length : Int) : Int).toNat ≤ 11728124029610 then (laws_toCalcS.l0 k l0 (List.replicate ((l0.length : Int) : Int).toNat z204) 0) else (none)) else (none)) = some r := h
  clear h
  by_cases c2 : 0 ≤ (l0.length : Int)
  rotate_left
  · rw [if_neg c2] at H
    exact absurd H (by simp)
  rw [if_pos c2] at H
  have c2b0 := eq_true c2
  have c2b1 : decide (0 ≤ (l0.length : Int)) = true := decide_eq_true c2
  clear c2
  by_cases c3 : ((l0.length : Int) : Int).toNat ≤ 11728124029610
  rotate_left
  · rw [if_neg c3] at H
    exact absurd H (by simp)
  rw [if_pos c3] at H
  have c3b0 := eq_true c3
  have c3b1 : decide (((l0.length : Int) : Int).toNat ≤ 11728124029610) = true := decide_eq_true c3
  clear c3
  obtain ⟨y217, hy217⟩ : ∃ y_ : List (S204), y_ = (List.replicate ((l0.length : Int) : Int).toNat z204) := ⟨_, rfl⟩
  replace H : (laws_toCalcS.l0 k l0 y217 0) = some r := by first | (rw [hy217]; with_reducible exact H) | (have H2_ := (Option.bind_some _ _).symm.trans H; rw [hy217]; with_reducible exact H2_) | (have H2_ := (Option.bind_some _ _).symm.trans H; with_reducible exact H2_) | with_reducible exact H | (rw [hy217]; exact H) | exact H
  have Ny217 := zK hy217
  clear hy217
  have H' := zK H
  clear H
  go_enter Try.func193, Try.ntmps193
  go_wp2_with (first | ((with_reducible refine gate_dst (N := 7) rfl ?_); refine Kd.R_make k204 _ 204 rfl (N := 7) rfl 130 _ _ rfl (l0.length : Int) rfl rfl Try.underlying130 (.agg #[(.int .i64 0), (.int .i64 0), (.int .i64 0)]) 24 info204 rfl (by decide) (by omega) z204 (ok := fun _ => True) (okp := fun _ => True) (k204_mkM _ _ _ z204 ) (fun _ hk => hk) trivial (of_decide_eq_true zA) (Nat.le_trans (Nat.mul_le_mul_right _ (of_decide_eq_true zA : (l0.length : Int).toNat ≤ 11728124029610)) (by omega)) (Below.refl _ _) (Nat.le_refl _) ?_; intro v218 w4 ho5 hb hg_ hnew_; clear hg_ hnew_; (first | rw [← Ny217.out] at ho5 | (simp only [Int.reduceToNat] at ho5; rw [← Ny217.out] at ho5)); have n0_ := zK (Kd.R_lower ho5 (zz zB)); have n1_ := zK (zp zB hb); clear HB; have HO219 := n0_; have HB := n1_; clear n0_ n1_; clear hb ho5))
  go_loopg [4] k (fun kq v4 w' => ∃ (x3_1 : List (S204)) (x4_1 : Int), v4 = .int .i64 x4_1 ∧ Aside0 (laws_toCalcS.l0 kq l0 x3_1 x4_1 = some r) ∧ Aside0 (kq ≤ k) ∧ Aside0 (Kd.R k204 204 w' w.heap.size (fun _ => True) v218 x3_1) ∧ Aside0 (Below w.heap.size w w'))
  case atStart => exact ⟨(y217), (0), zR, H', ⟨Nat.le_refl _⟩, ⟨zkR HO219⟩, ⟨zB⟩⟩
  clear H'
  try clear c1
  try clear c2
  try clear c2b0
  try clear c2b1
  try clear p2
  try clear c3
  try clear c3b0
  try clear c3b1
  obtain ⟨x3_1, x4_1, rfl, HA, HK1, HO_3, HB⟩ := hrel
  rcases gk with _ | k1
  · exact absurd HA.out (by simp [laws_toCalcS.l0])
  have H := HA.out
  clear HA
  simp only [laws_toCalcS.l0] at H
  by_cases c6 : x4_1 < (l0.length : Int)
  rotate_left
  · rw [if_neg c6] at H
    have c6b0 : decide (x4_1 < (l0.length : Int)) = false := decide_eq_false c6
    clear c6
    obtain rfl := Option.some.inj H
    go_wp2
    go_ret
    exact ⟨_, zE, by (with_reducible repeat (first | apply Kd.R_alloc | apply Kd.R_drewN | apply Kd.R_drew)); exact HO_3.out, zB⟩
  rw [if_pos c6] at H
  have c6b0 : decide (x4_1 < (l0.length : Int)) = true := decide_eq_true c6
  clear c6
  by_cases c7 : 0 ≤ x4_1
  rotate_left
  · rw [if_neg c7] at H
    exact absurd H (by simp)
  rw [if_pos c7] at H
  have c7b0 : decide (0 ≤ x4_1) = true := decide_eq_true c7
  clear c7
  replace H := Option.bind_eq_some_iff.mp H
  obtain ⟨⟨t221, t222, t223⟩, A80, H⟩ := H
  replace H : (if x4_1 < (x3_1.length : Int) then (laws_toCalcS.l0 k1 l0 (x3_1.set (x4_1 : Int).toNat (⟨t221, t222, t223⟩ : S204)) (wrap64 (x4_1 + 1))) else (none)) = some r := H
  have A8 := zK A80
  clear A80
  by_cases c9 : x4_1 < (x3_1.length : Int)
  rotate_left
  · rw [if_neg c9] at H
    exact absurd H (by simp)
  rw [if_pos c9] at H
  have c9b0 : decide (x4_1 < (x3_1.length : Int)) = true := decide_eq_true c9
  clear c9
  obtain ⟨y224, hy224⟩ : ∃ y_ : List (S204), y_ = (x3_1.set (x4_1 : Int).toNat (⟨t221, t222, t223⟩ : S204)) := ⟨_, rfl⟩
  replace H : (laws_toCalcS.l0 k1 l0 y224 (wrap64 (x4_1 + 1))) = some r := by first | (rw [hy224]; with_reducible exact H) | (have H2_ := (Option.bind_some _ _).symm.trans H; rw [hy224]; with_reducible exact H2_) | (have H2_ := (Option.bind_some _ _).symm.trans H; with_reducible exact H2_) | with_reducible exact H | (rw [hy224]; exact H) | exact H
  have Ny224 := zK hy224
  clear hy224
  have H' := zK H
  clear H
  have p220 : 0 ≤ (x4_1 : Int) := of_decide_eq_true zA
  have q220 : x4_1 < (l0.length : Int) := of_decide_eq_true zA
  obtain ⟨ad220, e220, hx220_0, hx220_1, hx220_2⟩ := at_T230 HR0.out x4_1 p220 q220
  cases e220
  (try replace hx220_0 := zX HB hx220_0)
  (try replace hx220_1 := zX HB hx220_1)
  (try replace hx220_2 := zX HB hx220_2)
  replace p220 := eq_true p220
  replace q220 := eq_true q220
  go_wp2_with (first | ((with_reducible refine gate_callee (f := 217) rfl ?_); refine zF 20 Try.func217 #[.agg #[.int .i64 ((rd_T230 l0 x4_1).f0), .int .i64 ((rd_T230 l0 x4_1).f1), .int .i64 ((rd_T230 l0 x4_1).f2)]] rfl zL ?_; (with_reducible refine (laws_toCalc.calls ((rd_T230 l0 x4_1).f0) ((rd_T230 l0 x4_1).f1) ((rd_T230 l0 x4_1).f2) t221 t222 t223 _ A8.out).mono ?_); rintro e w11 ⟨rfl, hb⟩; refine ⟨_, rfl, ?_⟩; have n0_ := zK (Kd.R_below (zkR HO_3) hb); have n1_ := zK (zp zB hb); clear HO_3; clear HB; have HO_3 := n0_; have HB := n1_; clear n0_ n1_; (try clear hb); (try clear hb2); (try clear hk); (try clear hi); have p10 : 0 ≤ (x4_1 : Int) := of_decide_eq_true zA; have q10 : (x4_1 : Int) < ((x3_1.length : Int) : Int) := of_decide_eq_true zA; obtain ⟨go10, co10, eo10, gb10, gl10, cl10, HG10⟩ := Kd.R_form HO_3.out (by omega); (first | cases eo10 | (injection eo10 with ea_ en_ ec_; (first | subst ea_ | (injection ea_ with ea_; subst ea_)); subst ec_; clear en_)); have GB10 := zK gb10; have GG10 := zK HG10; clear gb10 gl10 HG10; obtain ⟨ce10, hcl10, hM10, hcc10, hfr10⟩ := Kd.R_elem HO_3.out z204 (x4_1 : Int) p10 q10; obtain rfl := k204_openM hM10; have hx10_0 : w11.cell? ⟨go10, (x4_1 : Int).toNat * 3, none⟩ = some (.int .i64 ((rd_T204 x3_1 x4_1).f0)) := hcc10 0 _ rfl; have hx10_1 : w11.cell? ⟨go10, (x4_1 : Int).toNat * 3 + 1, none⟩ = some (.int .i64 ((rd_T204 x3_1 x4_1).f1)) := hcc10 1 _ rfl; have hx10_2 : w11.cell? ⟨go10, (x4_1 : Int).toNat * 3 + 2, none⟩ = some (.int .i64 ((rd_T204 x3_1 x4_1).f2)) := hcc10 2 _ rfl; have hf10_0 : w11.frozen? ⟨go10, (x4_1 : Int).toNat * 3, none⟩ = false := hfr10 0; have hf10_1 : w11.frozen? ⟨go10, (x4_1 : Int).toNat * 3 + 1, none⟩ = false := hfr10 1; have hf10_2 : w11.frozen? ⟨go10, (x4_1 : Int).toNat * 3 + 2, none⟩ = false := hfr10 2; clear hcl10 hcc10 hfr10 hM10; replace p10 := eq_true p10; replace q10 := eq_true q10; have HX12 := zK (show Kd.R k204 204 w11 w.heap.size (fun _ => True) (.slice (some ⟨go10, 0, none⟩) x3_1.length co10) x3_1 from (zkR HO_3)); obtain ⟨ce12, hcl12, hM12, hcc12, hfr12⟩ := Kd.R_elem HX12.out z204 (x4_1 : Int) (of_decide_eq_true zA) (by have h_ : (x4_1 : Int) < ((x3_1.length : Int) : Int) := of_decide_eq_true zA; first | exact h_ | (have e_ := (Kd.R_reads' HO_3.out).1; omega) | simpa using h_); obtain rfl := k204_openM hM12; have HP12 := Kd.R_seg HX12.out (x4_1 : Int) (of_decide_eq_true zA) (by have h_ : (x4_1 : Int) < ((x3_1.length : Int) : Int) := of_decide_eq_true zA; first | exact h_ | (have e_ := (Kd.R_reads' HO_3.out).1; omega) | simpa using h_) (seg := [.int .i64 t221, .int .i64 t222, .int .i64 t223]) (j := 0) hcl12 hcc12 (show 3 ≤ 3 from by decide) (x' := (⟨t221, t222, t223⟩ : S204)) (k204_mkM _ _ _ (⟨t221, t222, t223⟩ : S204) ) (fun _ hk => hk); have hx12_0 := hcc12 0 _ rfl; (try simp only [show (k204).sz = 3 from rfl, Nat.mul_one, Nat.add_zero] at hx12_0); have hf12_0 := hfr12 0; (try simp only [show (k204).sz = 3 from rfl, Nat.mul_one, Nat.add_zero] at hf12_0); have hx12_1 := hcc12 1 _ rfl; (try simp only [show (k204).sz = 3 from rfl, Nat.mul_one, Nat.add_zero] at hx12_1); have hf12_1 := hfr12 1; (try simp only [show (k204).sz = 3 from rfl, Nat.mul_one, Nat.add_zero] at hf12_1); have hx12_2 := hcc12 2 _ rfl; (try simp only [show (k204).sz = 3 from rfl, Nat.mul_one, Nat.add_zero] at hx12_2); have hf12_2 := hfr12 2; (try simp only [show (k204).sz = 3 from rfl, Nat.mul_one, Nat.add_zero] at hf12_2); clear hcl12 hcc12 hfr12 hM12) | ((with_reducible refine gate_store (t := 204) (p := 21) rfl ?_); refine store_event (t := 204) (p := 21) (v := ?vo_w13) (w1 := (((w11.setCell ⟨go10, (x4_1 : Int).toNat * 3, none⟩ (.int .i64 t221)).setCell ⟨go10, (x4_1 : Int).toNat * 3 + 1, none⟩ (.int .i64 t222)).setCell ⟨go10, (x4_1 : Int).toNat * 3 + 2, none⟩ (.int .i64 t223))) ?hg ?ho ?hn ?hr ?_; (case ho => rfl); (case hg => rfl); (case hn => rfl); (case hr => first | (go_simp; done) | (go_simp; rfl)); intro w13 hw; have hg : w11.grownBy w13 (some go10) := (by rw [hw]; exact HP12.2); have hp_ : Kd.R k204 204 w13 w.heap.size (fun _ => True) (.slice (some ⟨go10, 0, none⟩) x3_1.length co10) y224 := (by rw [hw, Ny224.out]; exact HP12.1); clear HP12; have n0_ := zK (hp_); have n1_ := zK ((by rw [hw]; exact zs (zs (zs (HB.out) GB10.out) GB10.out) GB10.out : Below w.heap.size w w13)); clear HO_3; clear HB; have HO_3 := n0_; have HB := n1_; clear n0_ n1_; clear hg hw hp_))
  go_roundg k1
  case measure => have := HK1.out; omega
  case rel => exact ⟨(y224), (wrap64 (x4_1 + 1)), zR, H', ⟨by have := HK1.out; omega⟩, ⟨zkR HO_3⟩, ⟨zB⟩⟩

/-! ### laws_toKernel: function 149 -/
def laws_toKernel.f (k : Nat) (l0_0 : List Int) (l0_1 : List (S169)) (a0_2 : Int) (a0_3 : Int) (l0_4 : List Int) (a0_5 : Bool) (l0_6 : List (S230)) : Option (List Int × (List (S129)) × Int × Int × List Int × Bool × (List (S204))) := (laws_toIntS.f k l0_0).bind fun t228 => ((laws_toAccessS.f k l0_1).bind fun t231 => ((laws_toAccess.f k a0_2 a0_3 l0_4).bind fun bt234 => ((laws_toCalcS.f k l0_6).bind fun t239 => (some (t228, t231, bt234.1, bt234.2.1, bt234.2.2, a0_5, t239)))))
theorem laws_toKernel.mono : ∀ a0 a1 a2 a3 a4 a5 a6 k, LeO (laws_toKernel.f k a0 a1 a2 a3 a4 a5 a6) (laws_toKernel.f (k + 1) a0 a1 a2 a3 a4 a5 a6) := by
  intro a0 a1 a2 a3 a4 a5 a6 k
  unfold laws_toKernel.f
  repeat' first
      | (with_reducible exact laws_toAccess.mono _ _ _ _)
      | (with_reducible exact laws_toAccessS.mono _ _)
      | (with_reducible exact laws_toCalcS.mono _ _)
      | (with_reducible exact laws_toIntS.mono _ _)
      | (with_reducible exact LeO.refl _)
      | (with_reducible exact LeO.none _)
      | (with_reducible refine LeO.ite ?_ ?_)
      | (with_reducible refine LeO.bind ?_ (fun _ => ?_))
      | exact laws_toAccess.mono _ _ _ _
      | exact laws_toAccessS.mono _ _
      | exact laws_toCalcS.mono _ _
      | exact laws_toIntS.mono _ _
      | exact LeO.none _
      | refine LeO.ite ?_ ?_
      | refine LeO.bind ?_ (fun _ => ?_)
set_option maxHeartbeats 8000000 in
set_option maxRecDepth 100000 in
theorem laws_toKernel.calls (k : Nat) (A0_0 : Option Addr) (c0_0 : Nat) (l0_0 : List Int) (A0_1 : Option Addr) (c0_1 : Nat) (l0_1 : List (S169)) (a0_2 : Int) (a0_3 : Int) (A0_4 : Option Addr) (c0_4 : Nat) (l0_4 : List Int) (a0_5 : Bool) (A0_6 : Option Addr) (c0_6 : Nat) (l0_6 : List (S230)) (r1 : List Int) (r2 : List (S129)) (r3 : Int) (r4 : Int) (r5 : List Int) (r6 : Bool) (r7 : List (S204)) (w : World) (hr0_0 : Kd.C (Kd.int .i64) w A0_0 l0_0.length l0_0) (hc0_0 : l0_0.length ≤ c0_0) (hr0_1 : Kd.C k169 w A0_1 l0_1.length l0_1) (hc0_1 : l0_1.length ≤ c0_1) (hr0_4 : Kd.C (Kd.int .i64) w A0_4 l0_4.length l0_4) (hc0_4 : l0_4.length ≤ c0_4) (hr0_6 : Kd.C k230 w A0_6 l0_6.length l0_6) (hc0_6 : l0_6.length ≤ c0_6) (h : laws_toKernel.f k l0_0 l0_1 a0_2 a0_3 l0_4 a0_5 l0_6 = some (r1, r2, r3, r4, r5, r6, r7)) :
    Calls Try.prog 149 #[.agg #[.slice A0_0 l0_0.length c0_0, .slice A0_1 l0_1.length c0_1, .int .i64 a0_2, .int .i64 a0_3, .slice A0_4 l0_4.length c0_4, .bool a0_5, .slice A0_6 l0_6.length c0_6]] w fun e w' => ∃ v0_ v1_ v4_ v6_ : Value, e = .returned (.agg #[v0_, v1_, .int .i64 r3, .int .i64 r4, v4_, .bool r6, v6_]) ∧ Kd.R (Kd.int .i64) 3 w' w.heap.size (fun k_ => some k_ ≠ (v4_ : Value).ownBlock) v0_ r1 ∧ Kd.S k129 129 w' w.heap.size (fun k_ => some k_ ≠ (v0_ : Value).ownBlock ∧ some k_ ≠ (v4_ : Value).ownBlock) v1_ r2 ∧ Kd.R (Kd.int .i64) 3 w' w.heap.size (fun k_ => some k_ ≠ (v0_ : Value).ownBlock) v4_ r5 ∧ Kd.R k204 204 w' w.heap.size (fun _ => True) v6_ r7 ∧ Below w.heap.size w w' := by
  have hu172 := Try.underlying172
  have hu132 := Try.underlying132
  have hu169 := Try.underlying169
  have hu129 := Try.underlying129
  have HR0_0 := zK hr0_0
  have HC0_0 := zK hc0_0
  clear hr0_0 hc0_0
  have HR0_1 := zK hr0_1
  have HC0_1 := zK hc0_1
  clear hr0_1 hc0_1
  have HR0_4 := zK hr0_4
  have HC0_4 := zK hc0_4
  clear hr0_4 hc0_4
  have HR0_6 := zK hr0_6
  have HC0_6 := zK hc0_6
  clear hr0_6 hc0_6
  have HB := zK (Below.refl w.heap.size w)
  have H : ((laws_toIntS.f k l0_0).bind fun t228 => ((laws_toAccessS.f k l0_1).bind fun t231 => ((laws_toAccess.f k a0_2 a0_3 l0_4).bind fun bt234 => ((laws_toCalcS.f k l0_6).bind fun t239 => (some (t228, t231, bt234.1, bt234.2.1, bt234.2.2, a0_5, t239)))))) = some (r1, r2, r3, r4, r5, r6, r7) := h
  clear h
  replace H := Option.bind_eq_some_iff.mp H
  obtain ⟨t228, A20, H⟩ := H
  replace H : ((laws_toAccessS.f k l0_1).bind fun t231 => ((laws_toAccess.f k a0_2 a0_3 l0_4).bind fun bt234 => ((laws_toCalcS.f k l0_6).bind fun t239 => (some (t228, t231, bt234.1, bt234.2.1, bt234.2.2, a0_5, t239))))) = some (r1, r2, r3, r4, r5, r6, r7) := H
  have A2 := zK A20
  clear A20
  replace H := Option.bind_eq_some_iff.mp H
  obtain ⟨t231, A30, H⟩ := H
  replace H : ((laws_toAccess.f k a0_2 a0_3 l0_4).bind fun bt234 => ((laws_toCalcS.f k l0_6).bind fun t239 => (some (t228, t231, bt234.1, bt234.2.1, bt234.2.2, a0_5, t239)))) = some (r1, r2, r3, r4, r5, r6, r7) := H
  have A3 := zK A30
  clear A30
  replace H := Option.bind_eq_some_iff.mp H
  obtain ⟨⟨t234, t235, t236⟩, A40, H⟩ := H
  replace H : ((laws_toCalcS.f k l0_6).bind fun t239 => (some (t228, t231, t234, t235, t236, a0_5, t239))) = some (r1, r2, r3, r4, r5, r6, r7) := H
  have A4 := zK A40
  clear A40
  replace H := Option.bind_eq_some_iff.mp H
  obtain ⟨t239, A50, H⟩ := H
  replace H : (some (t228, t231, t234, t235, t236, a0_5, t239)) = some (r1, r2, r3, r4, r5, r6, r7) := H
  have A5 := zK A50
  clear A50
  simp only [Option.some.injEq, Prod.mk.injEq] at H
  obtain ⟨rfl, rfl, rfl, rfl, rfl, rfl, rfl⟩ := H
  go_enter Try.func149, Try.ntmps149
  go_wp2_with (first | ((with_reducible refine gate_dst (N := 1) rfl ?_); refine zJ 1 #[.slice A0_0 l0_0.length c0_0, .slice A0_1 l0_1.length c0_1, .int .i64 a0_2, .int .i64 a0_3, .slice A0_4 l0_4.length c0_4, .bool a0_5, .slice A0_6 l0_6.length c0_6] 172 ?_; intro gb225 hg w6 hbox hb; have n0_ := zK (zp zB hb); have n1_ := zK (hbox); have n2_ := zK (zI hg zB); have n3_ := zK (zI hg zB); clear HB; have HB := n0_; have BK225 := n1_; have GW225 := n2_; have GE225 := n3_; clear n0_ n1_ n2_ n3_; clear hb hbox hg) | ((with_reducible refine gate_dst (N := 2) rfl ?_); refine zJ 2 #[.slice none 0 0, .slice none 0 0, .int .i64 0, .int .i64 0, .slice none 0 0, .bool false, .slice none 0 0] 132 ?_; intro gb226 hg w7 hbox hb; have n0_ := zK (zg (zM BK225) hb); have n1_ := zK (zp zB hb); have n2_ := zK (hbox); have n3_ := zK (zI hg zB); have n4_ := zK (zI hg zB); have n5_ := zK (zH hg (zM BK225)); have n6_ := zK (zG hg (zM BK225)); clear BK225; clear HB; have BK225 := n0_; have HB := n1_; have BK226 := n2_; have GW226 := n3_; have GE226 := n4_; have NB225_226 := n5_; have NB226_225 := n6_; clear n0_ n1_ n2_ n3_ n4_ n5_ n6_; clear hb hbox hg) | ((with_reducible refine gate_dst (N := 3) rfl ?_); refine zJ 3 #[.slice none 0 0, .slice none 0 0, .int .i64 0, .int .i64 0, .slice none 0 0, .bool false, .slice none 0 0] 132 ?_; intro gb227 hg w8 hbox hb; have n0_ := zK (zg (zM BK225) hb); have n1_ := zK (zg (zM BK226) hb); have n2_ := zK (zp zB hb); have n3_ := zK (hbox); have n4_ := zK (zI hg zB); have n5_ := zK (zI hg zB); have n6_ := zK (zH hg (zM BK225)); have n7_ := zK (zG hg (zM BK225)); have n8_ := zK (zH hg (zM BK226)); have n9_ := zK (zG hg (zM BK226)); clear BK225; clear BK226; clear HB; have BK225 := n0_; have BK226 := n1_; have HB := n2_; have BK227 := n3_; have GW227 := n4_; have GE227 := n5_; have NB225_227 := n6_; have NB227_225 := n7_; have NB226_227 := n8_; have NB227_226 := n9_; clear n0_ n1_ n2_ n3_ n4_ n5_ n6_ n7_ n8_ n9_; clear hb hbox hg; have hnb9 := NB225_226.out; have hnc9 := NB226_225.out; have hnb10 := NB225_227.out; have hnc10 := NB227_225.out; obtain ⟨hcz11_0, hcz11_1, hcz11_2, hcz11_3, hcz11_4, hcz11_5, hcz11_6, hfz11_0, hfz11_1, hfz11_2, hfz11_3, hfz11_4, hfz11_5, hfz11_6⟩ := zc7 BK225) | ((with_reducible refine gate_callee (f := 40) rfl ?_); refine zF 6 Try.func40 #[.slice A0_0 l0_0.length c0_0] rfl zL ?_; (with_reducible refine (laws_toIntS.calls k _ _ l0_0 t228 _ ?side1 ?side2 A2.out).mono ?_); (case side1 => exact zC (Kd.C_below HR0_0.out HB.out)); (case side2 => exact HC0_0.out); rintro e w12 ⟨v229, rfl, ho0, hb⟩; refine ⟨_, rfl, ?_⟩; have n0_ := zK (Kd.R_lower ho0 (zz zB)); have n1_ := zK (zg (zM BK225) hb); have n2_ := zK (zg (zM BK226) hb); have n3_ := zK (zg (zM BK227) hb); have n4_ := zK (zp zB hb); clear BK225; clear BK226; clear BK227; clear HB; have HO230 := n0_; have BK225 := n1_; have BK226 := n2_; have BK227 := n3_; have HB := n4_; clear n0_ n1_ n2_ n3_ n4_; (try clear hb); (try clear hb2); (try clear hk); (try clear hi); (try clear ho0); obtain ⟨Ao13, co13, eo13⟩ := Kd.R_slice HO230.out; subst eo13; have hnb14 := NB227_226.out; have hnc14 := NB226_227.out; obtain ⟨hcz15_0, hcz15_1, hcz15_2, hcz15_3, hcz15_4, hcz15_5, hcz15_6, hfz15_0, hfz15_1, hfz15_2, hfz15_3, hfz15_4, hfz15_5, hfz15_6⟩ := zc7 BK227; obtain ⟨hcz16_0, hcz16_1, hcz16_2, hcz16_3, hcz16_4, hcz16_5, hcz16_6, hfz16_0, hfz16_1, hfz16_2, hfz16_3, hfz16_4, hfz16_5, hfz16_6⟩ := zc7 BK225) | ((with_reducible refine gate_callee (f := 191) rfl ?_); refine zF 10 Try.func191 #[.slice A0_1 l0_1.length c0_1] rfl zL ?_; (with_reducible refine (laws_toAccessS.calls k _ _ l0_1 t231 _ ?side1 ?side2 A3.out).mono ?_); (case side1 => exact Kd.C_below HR0_1.out zB); (case side2 => exact HC0_1.out); rintro e w17 ⟨v232, rfl, ho0, hb⟩; refine ⟨_, rfl, ?_⟩; have n0_ := zK (Kd.R_below (by (with_reducible repeat (first | apply Kd.R_alloc | apply Kd.R_drewN | apply Kd.R_drew)); exact (Kd.R_mono (Kd.R_far (p := ⟨gb227, 0, none⟩) (Kd.R_types HO230.out BK227.out (by decide)) (fun _ hk => hk.2) (.slice Ao13 t228.length co13)) (fun _ h_ => h_.1))) hb); have n1_ := zK (Kd.S_lower (Kd.S_new' ho0 (Kd.R_lt (by (with_reducible repeat (first | apply Kd.R_alloc | apply Kd.R_drewN | apply Kd.R_drew)); exact (Kd.R_mono (Kd.R_far (p := ⟨gb227, 0, none⟩) (Kd.R_types HO230.out BK227.out (by decide)) (fun _ hk => hk.2) (.slice Ao13 t228.length co13)) (fun _ h_ => h_.1))))) (zz zB)); have n2_ := zK (zg (g := gb225) (o := .cells #[.slice A0_0 l0_0.length c0_0, .slice A0_1 l0_1.length c0_1, .int .i64 a0_2, .int .i64 a0_3, .slice A0_4 l0_4.length c0_4, .bool a0_5, .slice A0_6 l0_6.length c0_6] 172 (0, 0)) (by (with_reducible repeat (first | refine zn ?_ _ | refine zd ?_ | refine za ?_ _)); refine blk_far ?_ NB225_227.out _; (with_reducible repeat (first | refine zn ?_ _ | refine zd ?_ | refine za ?_ _)); exact BK225.out) hb); have n3_ := zK (zg (g := gb226) (o := .cells #[.slice none 0 0, .slice none 0 0, .int .i64 0, .int .i64 0, .slice none 0 0, .bool false, .slice none 0 0] 132 (0, 0)) (by (with_reducible repeat (first | refine zn ?_ _ | refine zd ?_ | refine za ?_ _)); refine blk_far ?_ NB226_227.out _; (with_reducible repeat (first | refine zn ?_ _ | refine zd ?_ | refine za ?_ _)); exact BK226.out) hb); have n4_ := zK (zg (g := gb227) (o := .cells #[.slice Ao13 t228.length co13, .slice none 0 0, .int .i64 0, .int .i64 0, .slice none 0 0, .bool false, .slice none 0 0] 132 (0, 0)) (by (with_reducible repeat (first | refine zn ?_ _ | refine zd ?_ | refine za ?_ _)); refine blk_put (cs := #[.slice none 0 0, .slice none 0 0, .int .i64 0, .int .i64 0, .slice none 0 0, .bool false, .slice none 0 0]) ?_ 0 _ rfl; (with_reducible repeat (first | refine zn ?_ _ | refine zd ?_ | refine za ?_ _)); exact BK227.out) hb); have n5_ := zK (zp zB hb); clear HO230; clear BK225; clear BK226; clear BK227; clear HB; have HO230 := n0_; have HO233 := n1_; have BK225 := n2_; have BK226 := n3_; have BK227 := n4_; have HB := n5_; clear n0_ n1_ n2_ n3_ n4_ n5_; (try clear hb); (try clear hb2); (try clear hk); (try clear hi); (try clear ho0); obtain ⟨Ao18, co18, eo18⟩ := Kd.S_slice HO233.out; subst eo18; obtain ⟨hcz19_0, hcz19_1, hcz19_2, hcz19_3, hcz19_4, hcz19_5, hcz19_6, hfz19_0, hfz19_1, hfz19_2, hfz19_3, hfz19_4, hfz19_5, hfz19_6⟩ := zc7 BK227; obtain ⟨hcz20_0, hcz20_1, hcz20_2, hcz20_3, hcz20_4, hcz20_5, hcz20_6, hfz20_0, hfz20_1, hfz20_2, hfz20_3, hfz20_4, hfz20_5, hfz20_6⟩ := zc7 BK225) | ((with_reducible refine gate_callee (f := 192) rfl ?_); refine zF 14 Try.func192 #[.agg #[.int .i64 a0_2, .int .i64 a0_3, .slice A0_4 l0_4.length c0_4]] rfl zL ?_; (with_reducible refine (laws_toAccess.calls k a0_2 a0_3 _ _ l0_4 t234 t235 t236 _ ?side1 ?side2 A4.out).mono ?_); (case side1 => exact Kd.C_below HR0_4.out zB); (case side2 => exact HC0_4.out); rintro e w21 ⟨v237, rfl, ho0, hb⟩; refine ⟨_, rfl, ?_⟩; have n0_ := zK (Kd.R_elder' (by (with_reducible repeat (first | apply Kd.R_alloc | apply Kd.R_drewN | apply Kd.R_drew)); exact (Kd.R_mono (Kd.R_far (p := ⟨gb227, 1, none⟩) (Kd.R_types HO230.out BK227.out (by decide)) (fun _ hk => hk.2) (.slice Ao18 t231.length co18)) (fun _ h_ => h_.1))) (Kd.R_base ho0) hb); have n1_ := zK (Kd.S_elder' (by (with_reducible repeat (first | apply Kd.S_alloc | apply Kd.S_drewN | apply Kd.S_drew)); exact (Kd.S_mono (Kd.S_far (p := ⟨gb227, 1, none⟩) (Kd.S_types HO233.out BK227.out (by decide)) (fun _ hk => hk.2) (.slice Ao18 t231.length co18)) (fun _ h_ => h_.1))) (Kd.R_base ho0) hb); have n2_ := zK (Kd.R_lower (Kd.R_new' ho0 (Kd.R_lt (by (with_reducible repeat (first | apply Kd.R_alloc | apply Kd.R_drewN | apply Kd.R_drew)); exact (Kd.R_mono (Kd.R_far (p := ⟨gb227, 1, none⟩) (Kd.R_types HO230.out BK227.out (by decide)) (fun _ hk => hk.2) (.slice Ao18 t231.length co18)) (fun _ h_ => h_.1))))) (zz zB)); have n3_ := zK (zg (g := gb225) (o := .cells #[.slice A0_0 l0_0.length c0_0, .slice A0_1 l0_1.length c0_1, .int .i64 a0_2, .int .i64 a0_3, .slice A0_4 l0_4.length c0_4, .bool a0_5, .slice A0_6 l0_6.length c0_6] 172 (0, 0)) (by (with_reducible repeat (first | refine zn ?_ _ | refine zd ?_ | refine za ?_ _)); refine blk_far ?_ NB225_227.out _; (with_reducible repeat (first | refine zn ?_ _ | refine zd ?_ | refine za ?_ _)); exact BK225.out) hb); have n4_ := zK (zg (g := gb226) (o := .cells #[.slice none 0 0, .slice none 0 0, .int .i64 0, .int .i64 0, .slice none 0 0, .bool false, .slice none 0 0] 132 (0, 0)) (by (with_reducible repeat (first | refine zn ?_ _ | refine zd ?_ | refine za ?_ _)); refine blk_far ?_ NB226_227.out _; (with_reducible repeat (first | refine zn ?_ _ | refine zd ?_ | refine za ?_ _)); exact BK226.out) hb); have n5_ := zK (zg (g := gb227) (o := .cells #[.slice Ao13 t228.length co13, .slice Ao18 t231.length co18, .int .i64 0, .int .i64 0, .slice none 0 0, .bool false, .slice none 0 0] 132 (0, 0)) (by (with_reducible repeat (first | refine zn ?_ _ | refine zd ?_ | refine za ?_ _)); refine blk_put (cs := #[.slice Ao13 t228.length co13, .slice none 0 0, .int .i64 0, .int .i64 0, .slice none 0 0, .bool false, .slice none 0 0]) ?_ 1 _ rfl; (with_reducible repeat (first | refine zn ?_ _ | refine zd ?_ | refine za ?_ _)); exact BK227.out) hb); have n6_ := zK (zp zB hb); clear HO230; clear HO233; clear BK225; clear BK226; clear BK227; clear HB; have HO230 := n0_; have HO233 := n1_; have HO238 := n2_; have BK225 := n3_; have BK226 := n4_; have BK227 := n5_; have HB := n6_; clear n0_ n1_ n2_ n3_ n4_ n5_ n6_; (try clear hb); (try clear hb2); (try clear hk); (try clear hi); (try clear ho0); obtain ⟨hcz22_0, hcz22_1, hcz22_2, hcz22_3, hcz22_4, hcz22_5, hcz22_6, hfz22_0, hfz22_1, hfz22_2, hfz22_3, hfz22_4, hfz22_5, hfz22_6⟩ := zc7 BK227; obtain ⟨Ao23, co23, eo23⟩ := Kd.R_slice HO238.out; subst eo23; obtain ⟨hcz24_0, hcz24_1, hcz24_2, hcz24_3, hcz24_4, hcz24_5, hcz24_6, hfz24_0, hfz24_1, hfz24_2, hfz24_3, hfz24_4, hfz24_5, hfz24_6⟩ := zc7 BK225) | ((with_reducible refine gate_callee (f := 193) rfl ?_); refine zF 21 Try.func193 #[.slice A0_6 l0_6.length c0_6] rfl zL ?_; (with_reducible refine (laws_toCalcS.calls k _ _ l0_6 t239 _ ?side1 ?side2 A5.out).mono ?_); (case side1 => exact Kd.C_below HR0_6.out zB); (case side2 => exact HC0_6.out); rintro e w25 ⟨v240, rfl, ho0, hb⟩; refine ⟨_, rfl, ?_⟩; have n0_ := zK (Kd.R_below (by (with_reducible repeat (first | apply Kd.R_alloc | apply Kd.R_drewN | apply Kd.R_drew)); exact (Kd.R_mono (Kd.R_far (p := ⟨gb227, 5, none⟩) (Kd.R_far (p := ⟨gb227, 4, none⟩) (Kd.R_far (p := ⟨gb227, 3, none⟩) (Kd.R_far (p := ⟨gb227, 2, none⟩) (Kd.R_types HO230.out BK227.out (by decide)) (fun _ hk => hk.2) (.int .i64 t234)) (fun _ hk => hk.2) (.int .i64 t235)) (fun _ hk => hk.2) (.slice Ao23 t236.length co23)) (fun _ hk => hk.2) (.bool a0_5)) (fun _ h_ => h_.1))) hb); have n1_ := zK (Kd.S_below (by (with_reducible repeat (first | apply Kd.S_alloc | apply Kd.S_drewN | apply Kd.S_drew)); exact (Kd.S_mono (Kd.S_far (p := ⟨gb227, 5, none⟩) (Kd.S_far (p := ⟨gb227, 4, none⟩) (Kd.S_far (p := ⟨gb227, 3, none⟩) (Kd.S_far (p := ⟨gb227, 2, none⟩) (Kd.S_types HO233.out BK227.out (by decide)) (fun _ hk => hk.2) (.int .i64 t234)) (fun _ hk => hk.2) (.int .i64 t235)) (fun _ hk => hk.2) (.slice Ao23 t236.length co23)) (fun _ hk => hk.2) (.bool a0_5)) (fun _ h_ => h_.1))) hb); have n2_ := zK (Kd.R_below (by (with_reducible repeat (first | apply Kd.R_alloc | apply Kd.R_drewN | apply Kd.R_drew)); exact (Kd.R_mono (Kd.R_far (p := ⟨gb227, 5, none⟩) (Kd.R_far (p := ⟨gb227, 4, none⟩) (Kd.R_far (p := ⟨gb227, 3, none⟩) (Kd.R_far (p := ⟨gb227, 2, none⟩) (Kd.R_types HO238.out BK227.out (by decide)) (fun _ hk => hk.2) (.int .i64 t234)) (fun _ hk => hk.2) (.int .i64 t235)) (fun _ hk => hk.2) (.slice Ao23 t236.length co23)) (fun _ hk => hk.2) (.bool a0_5)) (fun _ h_ => h_.1))) hb); have n3_ := zK (Kd.R_lower ho0 (zz zB)); have n4_ := zK (zg (g := gb225) (o := .cells #[.slice A0_0 l0_0.length c0_0, .slice A0_1 l0_1.length c0_1, .int .i64 a0_2, .int .i64 a0_3, .slice A0_4 l0_4.length c0_4, .bool a0_5, .slice A0_6 l0_6.length c0_6] 172 (0, 0)) (by (with_reducible repeat (first | refine zn ?_ _ | refine zd ?_ | refine za ?_ _)); refine blk_far ?_ NB225_227.out _; (with_reducible repeat (first | refine zn ?_ _ | refine zd ?_ | refine za ?_ _)); refine blk_far ?_ NB225_227.out _; (with_reducible repeat (first | refine zn ?_ _ | refine zd ?_ | refine za ?_ _)); refine blk_far ?_ NB225_227.out _; (with_reducible repeat (first | refine zn ?_ _ | refine zd ?_ | refine za ?_ _)); refine blk_far ?_ NB225_227.out _; (with_reducible repeat (first | refine zn ?_ _ | refine zd ?_ | refine za ?_ _)); exact BK225.out) hb); have n5_ := zK (zg (g := gb226) (o := .cells #[.slice none 0 0, .slice none 0 0, .int .i64 0, .int .i64 0, .slice none 0 0, .bool false, .slice none 0 0] 132 (0, 0)) (by (with_reducible repeat (first | refine zn ?_ _ | refine zd ?_ | refine za ?_ _)); refine blk_far ?_ NB226_227.out _; (with_reducible repeat (first | refine zn ?_ _ | refine zd ?_ | refine za ?_ _)); refine blk_far ?_ NB226_227.out _; (with_reducible repeat (first | refine zn ?_ _ | refine zd ?_ | refine za ?_ _)); refine blk_far ?_ NB226_227.out _; (with_reducible repeat (first | refine zn ?_ _ | refine zd ?_ | refine za ?_ _)); refine blk_far ?_ NB226_227.out _; (with_reducible repeat (first | refine zn ?_ _ | refine zd ?_ | refine za ?_ _)); exact BK226.out) hb); have n6_ := zK (zg (g := gb227) (o := .cells #[.slice Ao13 t228.length co13, .slice Ao18 t231.length co18, .int .i64 t234, .int .i64 t235, .slice Ao23 t236.length co23, .bool a0_5, .slice none 0 0] 132 (0, 0)) (by (with_reducible repeat (first | refine zn ?_ _ | refine zd ?_ | refine za ?_ _)); refine blk_put (cs := #[.slice Ao13 t228.length co13, .slice Ao18 t231.length co18, .int .i64 t234, .int .i64 t235, .slice Ao23 t236.length co23, .bool false, .slice none 0 0]) ?_ 5 _ rfl; (with_reducible repeat (first | refine zn ?_ _ | refine zd ?_ | refine za ?_ _)); refine blk_put (cs := #[.slice Ao13 t228.length co13, .slice Ao18 t231.length co18, .int .i64 t234, .int .i64 t235, .slice none 0 0, .bool false, .slice none 0 0]) ?_ 4 _ rfl; (with_reducible repeat (first | refine zn ?_ _ | refine zd ?_ | refine za ?_ _)); refine blk_put (cs := #[.slice Ao13 t228.length co13, .slice Ao18 t231.length co18, .int .i64 t234, .int .i64 0, .slice none 0 0, .bool false, .slice none 0 0]) ?_ 3 _ rfl; (with_reducible repeat (first | refine zn ?_ _ | refine zd ?_ | refine za ?_ _)); refine blk_put (cs := #[.slice Ao13 t228.length co13, .slice Ao18 t231.length co18, .int .i64 0, .int .i64 0, .slice none 0 0, .bool false, .slice none 0 0]) ?_ 2 _ rfl; (with_reducible repeat (first | refine zn ?_ _ | refine zd ?_ | refine za ?_ _)); exact BK227.out) hb); have n7_ := zK (zp zB hb); clear HO230; clear HO233; clear HO238; clear BK225; clear BK226; clear BK227; clear HB; have HO230 := n0_; have HO233 := n1_; have HO238 := n2_; have HO241 := n3_; have BK225 := n4_; have BK226 := n5_; have BK227 := n6_; have HB := n7_; clear n0_ n1_ n2_ n3_ n4_ n5_ n6_ n7_; (try clear hb); (try clear hb2); (try clear hk); (try clear hi); (try clear ho0); obtain ⟨Ao26, co26, eo26⟩ := Kd.R_slice HO241.out; subst eo26; obtain ⟨hcz27_0, hcz27_1, hcz27_2, hcz27_3, hcz27_4, hcz27_5, hcz27_6, hfz27_0, hfz27_1, hfz27_2, hfz27_3, hfz27_4, hfz27_5, hfz27_6⟩ := zc7 BK227; obtain ⟨hcz28_0, hcz28_1, hcz28_2, hcz28_3, hcz28_4, hcz28_5, hcz28_6, hfz28_0, hfz28_1, hfz28_2, hfz28_3, hfz28_4, hfz28_5, hfz28_6⟩ := zc7 BK226))
  refine bodyPost_ret (results_cell_row rfl _ _ gb226 132 #[.slice Ao13 t228.length co13, .slice Ao18 t231.length co18, .int .i64 t234, .int .i64 t235, .slice Ao23 t236.length co23, .bool a0_5, .slice Ao26 t239.length co26] (0, 0) _ rfl (by (with_reducible repeat (first | refine zn ?_ _ | refine zd ?_ | refine za ?_ _)); refine blk_put (cs := #[.slice Ao13 t228.length co13, .slice Ao18 t231.length co18, .int .i64 t234, .int .i64 t235, .slice Ao23 t236.length co23, .bool a0_5, .slice none 0 0]) ?_ 6 _ rfl; (with_reducible repeat (first | refine zn ?_ _ | refine zd ?_ | refine za ?_ _)); refine blk_put (cs := #[.slice Ao13 t228.length co13, .slice Ao18 t231.length co18, .int .i64 t234, .int .i64 t235, .slice Ao23 t236.length co23, .bool false, .slice none 0 0]) ?_ 5 _ rfl; (with_reducible repeat (first | refine zn ?_ _ | refine zd ?_ | refine za ?_ _)); refine blk_put (cs := #[.slice Ao13 t228.length co13, .slice Ao18 t231.length co18, .int .i64 t234, .int .i64 t235, .slice none 0 0, .bool false, .slice none 0 0]) ?_ 4 _ rfl; (with_reducible repeat (first | refine zn ?_ _ | refine zd ?_ | refine za ?_ _)); refine blk_put (cs := #[.slice Ao13 t228.length co13, .slice Ao18 t231.length co18, .int .i64 t234, .int .i64 0, .slice none 0 0, .bool false, .slice none 0 0]) ?_ 3 _ rfl; (with_reducible repeat (first | refine zn ?_ _ | refine zd ?_ | refine za ?_ _)); refine blk_put (cs := #[.slice Ao13 t228.length co13, .slice Ao18 t231.length co18, .int .i64 0, .int .i64 0, .slice none 0 0, .bool false, .slice none 0 0]) ?_ 2 _ rfl; (with_reducible repeat (first | refine zn ?_ _ | refine zd ?_ | refine za ?_ _)); refine blk_put (cs := #[.slice Ao13 t228.length co13, .slice none 0 0, .int .i64 0, .int .i64 0, .slice none 0 0, .bool false, .slice none 0 0]) ?_ 1 _ rfl; (with_reducible repeat (first | refine zn ?_ _ | refine zd ?_ | refine za ?_ _)); refine blk_put (cs := #[.slice none 0 0, .slice none 0 0, .int .i64 0, .int .i64 0, .slice none 0 0, .bool false, .slice none 0 0]) ?_ 0 _ rfl; (with_reducible repeat (first | refine zn ?_ _ | refine zd ?_ | refine za ?_ _)); refine blk_far ?_ NB226_227.out _; (with_reducible repeat (first | refine zn ?_ _ | refine zd ?_ | refine za ?_ _)); exact BK226.out) Try.underlying132 rfl (by kernel_rfl)) rfl ?_
  exact ⟨_, _, _, _, zE, by (with_reducible repeat (first | apply Kd.R_alloc | apply Kd.R_drewN | apply Kd.R_drew)); exact Kd.R_mono (Kd.R_far (p := ⟨gb226, 6, none⟩) (Kd.R_far (p := ⟨gb226, 5, none⟩) (Kd.R_far (p := ⟨gb226, 4, none⟩) (Kd.R_far (p := ⟨gb226, 3, none⟩) (Kd.R_far (p := ⟨gb226, 2, none⟩) (Kd.R_far (p := ⟨gb226, 1, none⟩) (Kd.R_far (p := ⟨gb226, 0, none⟩) (Kd.R_far (p := ⟨gb227, 6, none⟩) (Kd.R_types (Kd.R_types HO230.out BK227.out (by decide)) BK226.out (by decide)) (fun _ hk => hk.1.2) (.slice Ao26 t239.length co26)) (fun _ hk => hk.2) (.slice Ao13 t228.length co13)) (fun _ hk => hk.2) (.slice Ao18 t231.length co18)) (fun _ hk => hk.2) (.int .i64 t234)) (fun _ hk => hk.2) (.int .i64 t235)) (fun _ hk => hk.2) (.slice Ao23 t236.length co23)) (fun _ hk => hk.2) (.bool a0_5)) (fun _ hk => hk.2) (.slice Ao26 t239.length co26)) (fun _ hk => hk.1.1.2), by (with_reducible repeat (first | apply Kd.S_alloc | apply Kd.S_drewN | apply Kd.S_drew)); exact Kd.S_mono (Kd.S_far (p := ⟨gb226, 6, none⟩) (Kd.S_far (p := ⟨gb226, 5, none⟩) (Kd.S_far (p := ⟨gb226, 4, none⟩) (Kd.S_far (p := ⟨gb226, 3, none⟩) (Kd.S_far (p := ⟨gb226, 2, none⟩) (Kd.S_far (p := ⟨gb226, 1, none⟩) (Kd.S_far (p := ⟨gb226, 0, none⟩) (Kd.S_far (p := ⟨gb227, 6, none⟩) (Kd.S_types (Kd.S_types HO233.out BK227.out (by decide)) BK226.out (by decide)) (fun _ hk => hk.1.2) (.slice Ao26 t239.length co26)) (fun _ hk => hk.2) (.slice Ao13 t228.length co13)) (fun _ hk => hk.2) (.slice Ao18 t231.length co18)) (fun _ hk => hk.2) (.int .i64 t234)) (fun _ hk => hk.2) (.int .i64 t235)) (fun _ hk => hk.2) (.slice Ao23 t236.length co23)) (fun _ hk => hk.2) (.bool a0_5)) (fun _ hk => hk.2) (.slice Ao26 t239.length co26)) (fun _ hk => ⟨hk.1.1.1.2, hk.1.1.2⟩), by (with_reducible repeat (first | apply Kd.R_alloc | apply Kd.R_drewN | apply Kd.R_drew)); exact Kd.R_mono (Kd.R_far (p := ⟨gb226, 6, none⟩) (Kd.R_far (p := ⟨gb226, 5, none⟩) (Kd.R_far (p := ⟨gb226, 4, none⟩) (Kd.R_far (p := ⟨gb226, 3, none⟩) (Kd.R_far (p := ⟨gb226, 2, none⟩) (Kd.R_far (p := ⟨gb226, 1, none⟩) (Kd.R_far (p := ⟨gb226, 0, none⟩) (Kd.R_far (p := ⟨gb227, 6, none⟩) (Kd.R_types (Kd.R_types HO238.out BK227.out (by decide)) BK226.out (by decide)) (fun _ hk => hk.1.2) (.slice Ao26 t239.length co26)) (fun _ hk => hk.2) (.slice Ao13 t228.length co13)) (fun _ hk => hk.2) (.slice Ao18 t231.length co18)) (fun _ hk => hk.2) (.int .i64 t234)) (fun _ hk => hk.2) (.int .i64 t235)) (fun _ hk => hk.2) (.slice Ao23 t236.length co23)) (fun _ hk => hk.2) (.bool a0_5)) (fun _ hk => hk.2) (.slice Ao26 t239.length co26)) (fun _ hk => hk.1.1.2), by (with_reducible repeat (first | apply Kd.R_alloc | apply Kd.R_drewN | apply Kd.R_drew)); exact Kd.R_mono (Kd.R_far (p := ⟨gb226, 6, none⟩) (Kd.R_far (p := ⟨gb226, 5, none⟩) (Kd.R_far (p := ⟨gb226, 4, none⟩) (Kd.R_far (p := ⟨gb226, 3, none⟩) (Kd.R_far (p := ⟨gb226, 2, none⟩) (Kd.R_far (p := ⟨gb226, 1, none⟩) (Kd.R_far (p := ⟨gb226, 0, none⟩) (Kd.R_far (p := ⟨gb227, 6, none⟩) (Kd.R_types (Kd.R_types HO241.out BK227.out (by decide)) BK226.out (by decide)) (fun _ hk => hk.1.2) (.slice Ao26 t239.length co26)) (fun _ hk => hk.2) (.slice Ao13 t228.length co13)) (fun _ hk => hk.2) (.slice Ao18 t231.length co18)) (fun _ hk => hk.2) (.int .i64 t234)) (fun _ hk => hk.2) (.int .i64 t235)) (fun _ hk => hk.2) (.slice Ao23 t236.length co23)) (fun _ hk => hk.2) (.bool a0_5)) (fun _ hk => hk.2) (.slice Ao26 t239.length co26)) (fun _ hk => trivial), zB⟩

/-! ### laws_toKernelS: function 91 -/
def laws_toKernelS.l0 : Nat → List (S172) → List (S132) → Int → Option ((List (S132)))
  | 0, _, _, _ => none
  | k + 1, x0, x3, x4 => if x4 < (x0.length : Int) then (if 0 ≤ x4 then ((laws_toKernel.f k ((rd_T172 x0 x4).f0) ((rd_T172 x0 x4).f1) ((rd_T172 x0 x4).f2.f0) ((rd_T172 x0 x4).f2.f1) ((rd_T172 x0 x4).f2.f2) ((rd_T172 x0 x4).f3) ((rd_T172 x0 x4).f4)).bind fun bt246 => (if x4 < (x3.length : Int) then (laws_toKernelS.l0 k x0 (x3.set (x4 : Int).toNat (⟨bt246.1, bt246.2.1, (⟨bt246.2.2.1, bt246.2.2.2.1, bt246.2.2.2.2.1⟩ : S129), bt246.2.2.2.2.2.1, bt246.2.2.2.2.2.2⟩ : S132)) (wrap64 (x4 + 1))) else (none))) else (none)) else (some x3)
def laws_toKernelS.f (k : Nat) (l0 : List (S172)) : Option ((List (S132))) := if 0 ≤ (l0.length : Int) then (if ((l0.length : Int) : Int).toNat ≤ 2345624805922 then (laws_toKernelS.l0 k l0 (List.replicate ((l0.length : Int) : Int).toNat z132) 0) else (none)) else (none)
theorem laws_toKernelS.mono_l : ∀ k, (∀ y0 y1 y2, LeO (laws_toKernelS.l0 k y0 y1 y2) (laws_toKernelS.l0 (k + 1) y0 y1 y2))
  | 0 => fun _ _ _ r h => by simp [laws_toKernelS.l0] at h
  | k + 1 => by
    have ih0 := laws_toKernelS.mono_l k
    · intro y0 y1 y2
      unfold laws_toKernelS.l0
      repeat' first
      | (with_reducible exact ih0 _ _ _)
      | (with_reducible exact laws_toKernel.mono _ _ _ _ _ _ _ _)
      | (with_reducible exact LeO.refl _)
      | (with_reducible exact LeO.none _)
      | (with_reducible refine LeO.ite ?_ ?_)
      | (with_reducible refine LeO.bind ?_ (fun _ => ?_))
      | exact ih0 _ _ _
      | exact laws_toKernel.mono _ _ _ _ _ _ _ _
      | exact LeO.none _
      | refine LeO.ite ?_ ?_
      | refine LeO.bind ?_ (fun _ => ?_)
theorem laws_toKernelS.mono : ∀ a0 k, LeO (laws_toKernelS.f k a0) (laws_toKernelS.f (k + 1) a0) := by
  intro a0 k
  have ih0 := laws_toKernelS.mono_l k
  unfold laws_toKernelS.f
  repeat' first
      | (with_reducible exact ih0 _ _ _)
      | (with_reducible exact laws_toKernel.mono _ _ _ _ _ _ _ _)
      | (with_reducible exact LeO.refl _)
      | (with_reducible exact LeO.none _)
      | (with_reducible refine LeO.ite ?_ ?_)
      | (with_reducible refine LeO.bind ?_ (fun _ => ?_))
      | exact ih0 _ _ _
      | exact laws_toKernel.mono _ _ _ _ _ _ _ _
      | exact LeO.none _
      | refine LeO.ite ?_ ?_
      | refine LeO.bind ?_ (fun _ => ?_)
set_option maxHeartbeats 8000000 in
set_option maxRecDepth 100000 in
theorem laws_toKernelS.calls (k : Nat) (A0 : Option Addr) (c0 : Nat) (l0 : List (S172)) (r : List (S132)) (w : World) (hr0 : Kd.C k172 w A0 l0.length l0) (hc0 : l0.length ≤ c0) (h : laws_toKernelS.f k l0 = some r) :
    Calls Try.prog 91 #[.slice A0 l0.length c0] w fun e w' => ∃ v0_ : Value, e = .returned (v0_) ∧ Kd.R k132 132 w' w.heap.size (fun _ => True) v0_ r ∧ Below w.heap.size w w' := by
  have hu172 := Try.underlying172
  have hu132 := Try.underlying132
  have HR0 := zK hr0
  have HC0 := zK hc0
  clear hr0 hc0
  have HB := zK (Below.refl w.heap.size w)
  have H : (if 0 ≤ (l0.length : Int) then (if ((l0.length : Int) : Int).toNat ≤ 2345624805922 then (laws_toKernelS.l0 k l0 (List.replicate ((l0.length : Int) : Int).toNat z132) 0) else (none)) else (none)) = some r := h
  clear h
  by_cases c2 : 0 ≤ (l0.length : Int)
  rotate_left
  · rw [if_neg c2] at H
    exact absurd H (by simp)
  rw [if_pos c2] at H
  have c2b0 := eq_true c2
  have c2b1 : decide (0 ≤ (l0.length : Int)) = true := decide_eq_true c2
  clear c2
  by_cases c3 : ((l0.length : Int) : Int).toNat ≤ 2345624805922
  rotate_left
  · rw [if_neg c3] at H
    exact absurd H (by simp)
  rw [if_pos c3] at H
  have c3b0 := eq_true c3
  have c3b1 : decide (((l0.length : Int) : Int).toNat ≤ 2345624805922) = true := decide_eq_true c3
  clear c3
  obtain ⟨y242, hy242⟩ : ∃ y_ : List (S132), y_ = (List.replicate ((l0.length : Int) : Int).toNat z132) := ⟨_, rfl⟩
  replace H : (laws_toKernelS.l0 k l0 y242 0) = some r := by first | (rw [hy242]; with_reducible exact H) | (have H2_ := (Option.bind_some _ _).symm.trans H; rw [hy242]; with_reducible exact H2_) | (have H2_ := (Option.bind_some _ _).symm.trans H; with_reducible exact H2_) | with_reducible exact H | (rw [hy242]; exact H) | exact H
  have Ny242 := zK hy242
  clear hy242
  have H' := zK H
  clear H
  go_enter Try.func91, Try.ntmps91
  go_wp2_with (first | ((with_reducible refine gate_dst (N := 7) rfl ?_); refine Kd.R_make k132 _ 132 rfl (N := 7) rfl 68 _ _ rfl (l0.length : Int) rfl rfl Try.underlying68 (.agg #[(.slice none 0 0), (.slice none 0 0), (.int .i64 0), (.int .i64 0), (.slice none 0 0), (.bool false), (.slice none 0 0)]) 120 info132 rfl (by decide) (by omega) z132 (ok := fun _ => True) (okp := fun _ => True) (k132_mkM _ _ _ z132 (Kd.R_nil _ _ _ _ _) (Kd.R_nil _ _ _ _ _) (Kd.R_nil _ _ _ _ _) (Kd.R_nil _ _ _ _ _)) (fun _ hk => hk) trivial (of_decide_eq_true zA) (Nat.le_trans (Nat.mul_le_mul_right _ (of_decide_eq_true zA : (l0.length : Int).toNat ≤ 2345624805922)) (by omega)) (Below.refl _ _) (Nat.le_refl _) ?_; intro v243 w4 ho5 hb hg_ hnew_; clear hg_ hnew_; (first | rw [← Ny242.out] at ho5 | (simp only [Int.reduceToNat] at ho5; rw [← Ny242.out] at ho5)); have n0_ := zK (Kd.R_lower ho5 (zz zB)); have n1_ := zK (zp zB hb); clear HB; have HO244 := n0_; have HB := n1_; clear n0_ n1_; clear hb ho5))
  go_loopg [4] k (fun kq v4 w' => ∃ (x3_1 : List (S132)) (x4_1 : Int), v4 = .int .i64 x4_1 ∧ Aside0 (laws_toKernelS.l0 kq l0 x3_1 x4_1 = some r) ∧ Aside0 (kq ≤ k) ∧ Aside0 (Kd.R k132 132 w' w.heap.size (fun _ => True) v243 x3_1) ∧ Aside0 (Below w.heap.size w w'))
  case atStart => exact ⟨(y242), (0), zR, H', ⟨Nat.le_refl _⟩, ⟨zkR HO244⟩, ⟨zB⟩⟩
  clear H'
  try clear c2
  try clear c2b0
  try clear c2b1
  try clear p2
  try clear c3
  try clear c3b0
  try clear c3b1
  obtain ⟨x3_1, x4_1, rfl, HA, HK1, HO_3, HB⟩ := hrel
  rcases gk with _ | k1
  · exact absurd HA.out (by simp [laws_toKernelS.l0])
  have H := HA.out
  clear HA
  simp only [laws_toKernelS.l0] at H
  by_cases c6 : x4_1 < (l0.length : Int)
  rotate_left
  · rw [if_neg c6] at H
    have c6b0 : decide (x4_1 < (l0.length : Int)) = false := decide_eq_false c6
    clear c6
    obtain rfl := Option.some.inj H
    go_wp2
    go_ret
    exact ⟨_, zE, by (with_reducible repeat (first | apply Kd.R_alloc | apply Kd.R_drewN | apply Kd.R_drew)); exact HO_3.out, zB⟩
  rw [if_pos c6] at H
  have c6b0 : decide (x4_1 < (l0.length : Int)) = true := decide_eq_true c6
  clear c6
  by_cases c7 : 0 ≤ x4_1
  rotate_left
  · rw [if_neg c7] at H
    exact absurd H (by simp)
  rw [if_pos c7] at H
  have c7b0 : decide (0 ≤ x4_1) = true := decide_eq_true c7
  clear c7
  replace H := Option.bind_eq_some_iff.mp H
  obtain ⟨⟨t246, t249, t252, t253, t254, t257, t258⟩, A80, H⟩ := H
  replace H : (if x4_1 < (x3_1.length : Int) then (laws_toKernelS.l0 k1 l0 (x3_1.set (x4_1 : Int).toNat (⟨t246, t249, (⟨t252, t253, t254⟩ : S129), t257, t258⟩ : S132)) (wrap64 (x4_1 + 1))) else (none)) = some r := H
  have A8 := zK A80
  clear A80
  by_cases c9 : x4_1 < (x3_1.length : Int)
  rotate_left
  · rw [if_neg c9] at H
    exact absurd H (by simp)
  rw [if_pos c9] at H
  have c9b0 : decide (x4_1 < (x3_1.length : Int)) = true := decide_eq_true c9
  clear c9
  obtain ⟨y261, hy261⟩ : ∃ y_ : List (S132), y_ = (x3_1.set (x4_1 : Int).toNat (⟨t246, t249, (⟨t252, t253, t254⟩ : S129), t257, t258⟩ : S132)) := ⟨_, rfl⟩
  replace H : (laws_toKernelS.l0 k1 l0 y261 (wrap64 (x4_1 + 1))) = some r := by first | (rw [hy261]; with_reducible exact H) | (have H2_ := (Option.bind_some _ _).symm.trans H; rw [hy261]; with_reducible exact H2_) | (have H2_ := (Option.bind_some _ _).symm.trans H; with_reducible exact H2_) | with_reducible exact H | (rw [hy261]; exact H) | exact H
  have Ny261 := zK hy261
  clear hy261
  have H' := zK H
  clear H
  have p245 : 0 ≤ (x4_1 : Int) := of_decide_eq_true zA
  have q245 : x4_1 < (l0.length : Int) := of_decide_eq_true zA
  obtain ⟨ad245, A245_0, c245_0, A245_1, c245_1, A245_4, c245_4, A245_6, c245_6, e245, hx245_0, hx245_1, hx245_2, hx245_3, hx245_4, hx245_5, hx245_6, hl245_0, hi245_0, hl245_1, hi245_1, hl245_4, hi245_4, hl245_6, hi245_6⟩ := at_T172 HR0.out x4_1 p245 q245
  cases e245
  (try replace hx245_0 := zX HB hx245_0)
  (try replace hx245_1 := zX HB hx245_1)
  (try replace hx245_2 := zX HB hx245_2)
  (try replace hx245_3 := zX HB hx245_3)
  (try replace hx245_4 := zX HB hx245_4)
  (try replace hx245_5 := zX HB hx245_5)
  (try replace hx245_6 := zX HB hx245_6)
  have HR245_0 := zK hi245_0
  have HC245_0 := zK hl245_0
  clear hi245_0 hl245_0
  have HR245_1 := zK hi245_1
  have HC245_1 := zK hl245_1
  clear hi245_1 hl245_1
  have HR245_4 := zK hi245_4
  have HC245_4 := zK hl245_4
  clear hi245_4 hl245_4
  have HR245_6 := zK hi245_6
  have HC245_6 := zK hl245_6
  clear hi245_6 hl245_6
  replace p245 := eq_true p245
  replace q245 := eq_true q245
  go_wp2_with (first | ((with_reducible refine gate_callee (f := 149) rfl ?_); refine zF 20 Try.func149 #[.agg #[.slice A245_0 ((rd_T172 l0 x4_1).f0).length c245_0, .slice A245_1 ((rd_T172 l0 x4_1).f1).length c245_1, .int .i64 ((rd_T172 l0 x4_1).f2.f0), .int .i64 ((rd_T172 l0 x4_1).f2.f1), .slice A245_4 ((rd_T172 l0 x4_1).f2.f2).length c245_4, .bool ((rd_T172 l0 x4_1).f3), .slice A245_6 ((rd_T172 l0 x4_1).f4).length c245_6]] rfl zL ?_; (with_reducible refine (laws_toKernel.calls k1 _ _ ((rd_T172 l0 x4_1).f0) _ _ ((rd_T172 l0 x4_1).f1) ((rd_T172 l0 x4_1).f2.f0) ((rd_T172 l0 x4_1).f2.f1) _ _ ((rd_T172 l0 x4_1).f2.f2) ((rd_T172 l0 x4_1).f3) _ _ ((rd_T172 l0 x4_1).f4) t246 t249 t252 t253 t254 t257 t258 _ ?side1 ?side2 ?side3 ?side4 ?side5 ?side6 ?side7 ?side8 A8.out).mono ?_); (case side1 => exact zC (Kd.C_below HR245_0.out HB.out)); (case side2 => exact HC245_0.out); (case side3 => exact zC (Kd.C_below HR245_1.out HB.out)); (case side4 => exact HC245_1.out); (case side5 => exact zC (Kd.C_below HR245_4.out HB.out)); (case side6 => exact HC245_4.out); (case side7 => exact zC (Kd.C_below HR245_6.out HB.out)); (case side8 => exact HC245_6.out); rintro e w11 ⟨v247, v250, v255, v259, rfl, ho0, ho1, ho2, ho3, hb⟩; refine ⟨_, rfl, ?_⟩; have n0_ := zK (Kd.R_mono (Kd.R_told (Kd.R_told (Kd.R_told (Kd.R_told (Kd.R_old (zkR HO_3) hb) (Kd.R_base ho0)) (Kd.S_base ho1)) (Kd.R_base ho2)) (Kd.R_base ho3)) (fun _ h_ => h_.1)); have n1_ := zK (Kd.R_lower ho0 (zz zB)); have n2_ := zK (Kd.S_lower ho1 (zz zB)); have n3_ := zK (Kd.R_lower ho2 (zz zB)); have n4_ := zK (Kd.R_lower ho3 (zz zB)); have n5_ := zK (zp zB hb); clear HO_3; clear HB; have HO_3 := n0_; have HO248 := n1_; have HO251 := n2_; have HO256 := n3_; have HO260 := n4_; have HB := n5_; clear n0_ n1_ n2_ n3_ n4_ n5_; (try clear hb); (try clear hb2); (try clear hk); (try clear hi); (try clear ho0); (try clear ho1); (try clear ho2); (try clear ho3); have p10 : 0 ≤ (x4_1 : Int) := of_decide_eq_true zA; have q10 : (x4_1 : Int) < ((x3_1.length : Int) : Int) := of_decide_eq_true zA; obtain ⟨go10, co10, eo10, gb10, gl10, cl10, HG10⟩ := Kd.R_form HO_3.out (by omega); (first | cases eo10 | (injection eo10 with ea_ en_ ec_; (first | subst ea_ | (injection ea_ with ea_; subst ea_)); subst ec_; clear en_)); have GB10 := zK gb10; have GG10 := zK HG10; clear gb10 gl10 HG10; obtain ⟨ce10, hcl10, hM10, hcc10, hfr10⟩ := Kd.R_elem HO_3.out z132 (x4_1 : Int) p10 q10; obtain ⟨ve10_0, ve10_1, ve10_4, ve10_6, rfl, ge10_0, ge10_1, ge10_4, ge10_6⟩ := k132_openM hM10; have hx10_0 : w11.cell? ⟨go10, (x4_1 : Int).toNat * 7, none⟩ = some (ve10_0) := hcc10 0 _ rfl; have hx10_1 : w11.cell? ⟨go10, (x4_1 : Int).toNat * 7 + 1, none⟩ = some (ve10_1) := hcc10 1 _ rfl; have hx10_2 : w11.cell? ⟨go10, (x4_1 : Int).toNat * 7 + 2, none⟩ = some (.int .i64 ((rd_T132 x3_1 x4_1).f2.f0)) := hcc10 2 _ rfl; have hx10_3 : w11.cell? ⟨go10, (x4_1 : Int).toNat * 7 + 3, none⟩ = some (.int .i64 ((rd_T132 x3_1 x4_1).f2.f1)) := hcc10 3 _ rfl; have hx10_4 : w11.cell? ⟨go10, (x4_1 : Int).toNat * 7 + 4, none⟩ = some (ve10_4) := hcc10 4 _ rfl; have hx10_5 : w11.cell? ⟨go10, (x4_1 : Int).toNat * 7 + 5, none⟩ = some (.bool ((rd_T132 x3_1 x4_1).f3)) := hcc10 5 _ rfl; have hx10_6 : w11.cell? ⟨go10, (x4_1 : Int).toNat * 7 + 6, none⟩ = some (ve10_6) := hcc10 6 _ rfl; have hf10_0 : w11.frozen? ⟨go10, (x4_1 : Int).toNat * 7, none⟩ = false := hfr10 0; have hf10_1 : w11.frozen? ⟨go10, (x4_1 : Int).toNat * 7 + 1, none⟩ = false := hfr10 1; have hf10_2 : w11.frozen? ⟨go10, (x4_1 : Int).toNat * 7 + 2, none⟩ = false := hfr10 2; have hf10_3 : w11.frozen? ⟨go10, (x4_1 : Int).toNat * 7 + 3, none⟩ = false := hfr10 3; have hf10_4 : w11.frozen? ⟨go10, (x4_1 : Int).toNat * 7 + 4, none⟩ = false := hfr10 4; have hf10_5 : w11.frozen? ⟨go10, (x4_1 : Int).toNat * 7 + 5, none⟩ = false := hfr10 5; have hf10_6 : w11.frozen? ⟨go10, (x4_1 : Int).toNat * 7 + 6, none⟩ = false := hfr10 6; clear hcl10 hcc10 hfr10 hM10; replace p10 := eq_true p10; replace q10 := eq_true q10; obtain ⟨Ao12, co12, eo12⟩ := Kd.R_slice HO260.out; subst eo12; obtain ⟨Ao13, co13, eo13⟩ := Kd.R_slice HO256.out; subst eo13; obtain ⟨Ao14, co14, eo14⟩ := Kd.S_slice HO251.out; subst eo14; obtain ⟨Ao15, co15, eo15⟩ := Kd.R_slice HO248.out; subst eo15; have n_ := zK (Kd.R_mono (ok' := (fun k_ => some k_ ≠ (.slice Ao15 t246.length co15 : Value).ownBlock ∧ some k_ ≠ (.slice Ao14 t249.length co14 : Value).ownBlock ∧ some k_ ≠ (.slice Ao13 t254.length co13 : Value).ownBlock ∧ some k_ ≠ (.slice Ao12 t258.length co12 : Value).ownBlock)) HO_3.out (fun k_ hk => ⟨hk.1.1.1.2, ⟨hk.1.1.2, ⟨hk.1.2, hk.2⟩⟩⟩)); clear HO_3; have HO_3 := n_; clear n_; have HX16 := zK (show Kd.R k132 132 w11 w.heap.size (fun _ => True) (.slice (some ⟨go10, 0, none⟩) x3_1.length co10) x3_1 from (by (with_reducible repeat (first | apply Kd.R_alloc | apply Kd.R_drewN | apply Kd.R_drew)); exact Kd.R_mono HO_3.out (fun _ hk => trivial))); obtain ⟨ce16, hcl16, hM16, hcc16, hfr16⟩ := Kd.R_elem HX16.out z132 (x4_1 : Int) (of_decide_eq_true zA) (by have h_ : (x4_1 : Int) < ((x3_1.length : Int) : Int) := of_decide_eq_true zA; first | exact h_ | (have e_ := (Kd.R_reads' HO_3.out).1; omega) | simpa using h_); obtain ⟨ve16_0, ve16_1, ve16_4, ve16_6, rfl, ge16_0, ge16_1, ge16_4, ge16_6⟩ := k132_openM hM16; have HP16 := Kd.R_seg HX16.out (x4_1 : Int) (of_decide_eq_true zA) (by have h_ : (x4_1 : Int) < ((x3_1.length : Int) : Int) := of_decide_eq_true zA; first | exact h_ | (have e_ := (Kd.R_reads' HO_3.out).1; omega) | simpa using h_) (seg := [.slice Ao15 t246.length co15, .slice Ao14 t249.length co14, .int .i64 t252, .int .i64 t253, .slice Ao13 t254.length co13, .bool t257, .slice Ao12 t258.length co12]) (j := 0) hcl16 hcc16 (show 7 ≤ 7 from by decide) (x' := (⟨t246, t249, (⟨t252, t253, t254⟩ : S129), t257, t258⟩ : S132)) (k132_mkM _ _ _ (⟨t246, t249, (⟨t252, t253, t254⟩ : S129), t257, t258⟩ : S132) (Kd.R_mono (Kd.R_apart' (HO248.out) (Kd.R_typed HO_3.out) (by decide)) (fun k_ hk => ⟨trivial, fun e_ => (hk.2) (by rw [e_]; rfl)⟩)) (Kd.R_mono (Kd.R_apart' ((Kd.S_R HO251.out)) (Kd.R_typed HO_3.out) (by decide)) (fun k_ hk => ⟨trivial, fun e_ => (hk.2) (by rw [e_]; rfl)⟩)) (Kd.R_mono (Kd.R_apart' (HO256.out) (Kd.R_typed HO_3.out) (by decide)) (fun k_ hk => ⟨trivial, fun e_ => (hk.2) (by rw [e_]; rfl)⟩)) (Kd.R_mono (Kd.R_apart' (HO260.out) (Kd.R_typed HO_3.out) (by decide)) (fun k_ hk => ⟨trivial, fun e_ => (hk.2) (by rw [e_]; rfl)⟩))) (fun _ hk => hk); have hx16_0 := hcc16 0 _ rfl; (try simp only [show (k132).sz = 7 from rfl, Nat.mul_one, Nat.add_zero] at hx16_0); have hf16_0 := hfr16 0; (try simp only [show (k132).sz = 7 from rfl, Nat.mul_one, Nat.add_zero] at hf16_0); have hx16_1 := hcc16 1 _ rfl; (try simp only [show (k132).sz = 7 from rfl, Nat.mul_one, Nat.add_zero] at hx16_1); have hf16_1 := hfr16 1; (try simp only [show (k132).sz = 7 from rfl, Nat.mul_one, Nat.add_zero] at hf16_1); have hx16_2 := hcc16 2 _ rfl; (try simp only [show (k132).sz = 7 from rfl, Nat.mul_one, Nat.add_zero] at hx16_2); have hf16_2 := hfr16 2; (try simp only [show (k132).sz = 7 from rfl, Nat.mul_one, Nat.add_zero] at hf16_2); have hx16_3 := hcc16 3 _ rfl; (try simp only [show (k132).sz = 7 from rfl, Nat.mul_one, Nat.add_zero] at hx16_3); have hf16_3 := hfr16 3; (try simp only [show (k132).sz = 7 from rfl, Nat.mul_one, Nat.add_zero] at hf16_3); have hx16_4 := hcc16 4 _ rfl; (try simp only [show (k132).sz = 7 from rfl, Nat.mul_one, Nat.add_zero] at hx16_4); have hf16_4 := hfr16 4; (try simp only [show (k132).sz = 7 from rfl, Nat.mul_one, Nat.add_zero] at hf16_4); have hx16_5 := hcc16 5 _ rfl; (try simp only [show (k132).sz = 7 from rfl, Nat.mul_one, Nat.add_zero] at hx16_5); have hf16_5 := hfr16 5; (try simp only [show (k132).sz = 7 from rfl, Nat.mul_one, Nat.add_zero] at hf16_5); have hx16_6 := hcc16 6 _ rfl; (try simp only [show (k132).sz = 7 from rfl, Nat.mul_one, Nat.add_zero] at hx16_6); have hf16_6 := hfr16 6; (try simp only [show (k132).sz = 7 from rfl, Nat.mul_one, Nat.add_zero] at hf16_6); clear hcl16 hcc16 hfr16 hM16) | ((with_reducible refine gate_store (t := 132) (p := 21) rfl ?_); refine store_event (t := 132) (p := 21) (v := ?vo_w17) (w1 := (((((((w11.setCell ⟨go10, (x4_1 : Int).toNat * 7, none⟩ (.slice Ao15 t246.length co15)).setCell ⟨go10, (x4_1 : Int).toNat * 7 + 1, none⟩ (.slice Ao14 t249.length co14)).setCell ⟨go10, (x4_1 : Int).toNat * 7 + 2, none⟩ (.int .i64 t252)).setCell ⟨go10, (x4_1 : Int).toNat * 7 + 3, none⟩ (.int .i64 t253)).setCell ⟨go10, (x4_1 : Int).toNat * 7 + 4, none⟩ (.slice Ao13 t254.length co13)).setCell ⟨go10, (x4_1 : Int).toNat * 7 + 5, none⟩ (.bool t257)).setCell ⟨go10, (x4_1 : Int).toNat * 7 + 6, none⟩ (.slice Ao12 t258.length co12))) ?hg ?ho ?hn ?hr ?_; (case ho => rfl); (case hg => rfl); (case hn => rfl); (case hr => first | (go_simp; done) | (go_simp; rfl)); intro w17 hw; have hg : w11.grownBy w17 (some go10) := (by rw [hw]; exact HP16.2); have hp_ : Kd.R k132 132 w17 w.heap.size (fun _ => True) (.slice (some ⟨go10, 0, none⟩) x3_1.length co10) y261 := (by rw [hw, Ny261.out]; exact HP16.1); clear HP16; have n0_ := zK (hp_); have n1_ := zK ((by rw [hw]; exact zs (zs (zs (zs (zs (zs (zs (HB.out) GB10.out) GB10.out) GB10.out) GB10.out) GB10.out) GB10.out) GB10.out : Below w.heap.size w w17)); clear HO_3; clear HB; clear HO248; clear HO251; clear HO256; clear HO260; have HO_3 := n0_; have HB := n1_; clear n0_ n1_; clear hg hw hp_))
  go_roundg k1
  case measure => have := HK1.out; omega
  case rel => exact ⟨(y261), (wrap64 (x4_1 + 1)), zR, H', ⟨by have := HK1.out; omega⟩, ⟨zkR HO_3⟩, ⟨zB⟩⟩

end Go.Proofs.Ytkfagiojcjnfkaa.PFnExactNestOk
